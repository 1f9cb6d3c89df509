/- Lowered code of the functions, by program. No condition. -/
import Derived.Test.YtgdllpgidgiccaaGreatDoorAbP1
set_option linter.unusedVariables false
namespace Go.Ab
def c37 (F T:Nat→Nat):C :=
 .n [.mov (some 2) (.k .nils),.mov (some 3) (.i 0)] <|
 .n [.m 9 0,.c 10 (F 50) [.t 9],.m 8 10,.x 11 0 8,.x 12 1 8,.m 4 11,.m 5 12] <|
 .seq (.n [.m 13 5,.bi 14 .neq 13 0] <|
 .cond (.t 14)
 (.n [.m 15 5,.mov (some 2) (.k .nils),.m 3 15] <|
 .ret)
 (.skip)) <|
 .seq (.gha .fz <| .o [.build (some 16) [(.int .i64 0),(.int .i64 0),(.int .i64 0),.nils,.nils] [],.mkl (some 17) 5 [.t 16],.build (some 18) [.nils] [(0,1,(.t 17))],.box 19 (T 9) (.t 18),.m 6 19]) <|
 .seq (.n [.mov (some 7) (.i 0)] <|
 .block 0 <|
 .loop <|
 .seq (.n [.m 20 7,.m 21 4,.ll 22 21,.b 23 .lss 20 22] <|
 .cond (.t 23)
 (.skip)
 (.exit 0)) <|
 .seq (.block 1 <|
 .o [.m 26 6,.m 27 0,.m 28 4,.m 29 7,.ia 30 3 28 29,.load (some 31) false 3 true (.t 30),.e 32 38 (F 60) [.t 26,.t 27,.t 31]]) <|
 .o [.m 24 7,.bi 25 .add 24 1,.m 7 25]) <|
 .n [.m 33 6,.e 34 38 (F 61) [.t 33,.i 0]] <|
 .n [.m 35 6,.e 36 38 (F 62) [.t 35],.field (some 37) 3 1 false (.t 36),.m 2 37,.mov (some 3) (.i 0)] <|
 .ret
abbrev Is37 (P:Program) (F T:Nat→Nat):Prop:=Fn P (F 37) 38 [(2,none),(3,none)] (c37 F T)
def c60 (F T:Nat→Nat):C :=
 .n [.box 5 (T 8) (.t 2)] <|
 .n [.m 11 1,.load (some 12) false 3 true (.t 5),.c 13 (F 81) [.t 11,.t 12],.m 6 13] <|
 .n [.f 14 0 5,.l 15 14] <|
 .block 0 <|
 .n [.bi 20 .eql 15 9,.m 19 20] <|
 .cond (.t 19)
 (.o [.m 21 0,.m 22 6,.build (some 23) [(.int .i64 0),(.int .i64 0),(.str []),.nils,.nils] [(0,1,(.i 2)),(2,1,(.t 22))],.e 24 131 (F 82) [.t 21,.t 23]])
 (.n [.bi 26 .eql 15 10,.m 25 26] <|
 .cond (.t 25)
 (.o [.m 27 0,.m 28 6,.m 29 6,.ls 30 29,.bi 31 .sub 30 9,.slcS (some 32) (.t 28) (some (.i 8)) (some (.t 31)),.build (some 33) [(.int .i64 0),(.int .i64 0),(.str []),.nils,.nils] [(0,1,(.i 3)),(2,1,(.t 32))],.e 34 131 (F 82) [.t 27,.t 33]])
 (.n [.bi 36 .eql 15 3,.m 35 36] <|
 .cond (.t 35)
 (.o [.m 37 0,.m 38 6,.ls 39 38,.build (some 40) [(.int .i64 0),(.int .i64 0),(.int .i64 0),.nils,.nils] [(0,1,(.i 3)),(2,1,(.t 39))],.m 41 6,.e 42 131 (F 83) [.t 37,.t 40,.t 41]])
 (.n [.bi 44 .eql 15 5,.m 43 44] <|
 .cond (.t 43)
 (.o [.m 45 0,.build (some 46) [(.int .i64 0),(.int .i64 0),(.int .i64 0),.nils,.nils] [(0,1,(.i 1))],.m 47 6,.e 48 131 (F 83) [.t 45,.t 46,.t 47]])
 (.n [.bi 50 .eql 15 11,.m 49 50] <|
 .cond (.t 49)
 (.o [.m 51 0,.m 52 1,.load (some 53) false 3 true (.t 5),.c 54 (F 84) [.t 52,.t 53],.build (some 55) [(.int .i64 0),(.int .i64 0),(.int .i64 0),.nils,.nils] [(0,1,(.i 2)),(1,1,(.t 54))],.m 56 6,.e 57 131 (F 83) [.t 51,.t 55,.t 56]])
 (.n [.bi 59 .eql 15 7,.m 58 59] <|
 .cond (.t 58)
 (.seq (.n [.m 60 0,.e 61 131 (F 62) [.t 60],.alloc 7 (T 11) [(.int .i64 0),(.int .i64 0),(.int .i64 0),.nils,.nils],.store 5 (.t 7) (.t 61)] <|
 .n [.f 62 0 7,.l 63 62,.bi 64 .eql 63 3] <|
 .cond (.t 64)
 (.seq (.gha .fz <| .o [.f 65 4 7,.l 66 65,.app 67 (T 1) 3 (.k .nils) (.t 66),.build (some 68) [(.bool false),.nils,.nils] [],.mkl (some 69) 3 [.t 68],.app 70 (T 1) 3 (.t 67) (.t 69),.f 71 4 7,.store 1 (.t 71) (.t 70)]) <|
 .n [.m 72 0,.load (some 73) false 5 true (.t 7),.e 74 131 (F 85) [.t 72,.t 73]] <|
 .ret)
 (.skip)) <|
 .o [.m 75 0,.m 76 6,.e 77 131 (F 86) [.t 75,.t 76]])
 (.n [.bi 79 .eql 15 8,.m 78 79] <|
 .cond (.t 78)
 (.o [.m 80 0,.e 81 131 (F 87) [.t 80]])
 (.n [.bi 83 .eql 15 6,.m 82 83] <|
 .cond (.t 82)
 (.seq (.n [.m 84 0,.e 85 131 (F 62) [.t 84],.field (some 86) 0 1 false (.t 85),.bi 87 .neq 86 1] <|
 .cond (.t 87)
 (.n [.m 88 0,.m 89 6,.e 90 131 (F 86) [.t 88,.t 89]] <|
 .ret)
 (.skip)) <|
 .n [.m 91 0,.e 92 131 (F 88) [.t 91],.alloc 8 (T 11) [(.int .i64 0),(.int .i64 0),(.int .i64 0),.nils,.nils],.store 5 (.t 8) (.t 92)] <|
 .n [.m 93 0,.e 94 131 (F 86) [.t 93,.s [91,91]]] <|
 .n [.m 95 0,.f 96 3 8,.l 97 96,.e 98 131 (F 89) [.t 95,.t 97]] <|
 .o [.m 99 0,.e 100 131 (F 86) [.t 99,.s [93,93]]])
 (.n [.bi 102 .eql 15 12,.m 101 102] <|
 .cond (.t 101)
 (.n [.m 103 0,.m 104 1,.load (some 105) false 3 true (.t 5),.c 106 (F 84) [.t 104,.t 105],.e 107 131 (F 90) [.t 103,.t 106],.m 9 107] <|
 .seq (.n [.m 108 9,.bi 109 .eql 108 0] <|
 .cond (.t 109)
 (.n [.m 110 0,.m 111 6,.e 112 131 (F 86) [.t 110,.t 111]] <|
 .ret)
 (.skip)) <|
 .n [.m 113 0,.m 114 9,.e 115 131 (F 61) [.t 113,.t 114]] <|
 .n [.m 116 0,.e 117 131 (F 88) [.t 116],.alloc 10 (T 11) [(.int .i64 0),(.int .i64 0),(.int .i64 0),.nils,.nils],.store 5 (.t 10) (.t 117)] <|
 .o [.m 118 0,.f 119 1 10,.l 120 119,.f 121 3 10,.l 122 121,.build (some 123) [(.int .i64 0),(.int .i64 0),(.str []),.nils,.nils] [(0,1,(.i 6)),(1,1,(.t 120)),(3,1,(.t 122))],.e 124 131 (F 82) [.t 118,.t 123]])
 (.n [.bi 126 .eql 15 4,.m 125 126] <|
 .cond (.t 125)
 (.o [.m 127 0,.m 128 6,.ls 129 128,.e 130 131 (F 91) [.t 127,.t 129]])
 (.o [.m 16 0,.m 17 6,.e 18 131 (F 86) [.t 16,.t 17]]))))))))))
abbrev Is60 (P:Program) (F T:Nat→Nat):Prop:=Fn P (F 60) 131 [] (c60 F T)
def c61 (F T:Nat→Nat):C :=
 .block 0 <|
 .loop <|
 .seq (.n [.m 4 0,.nchk (some 5) (.t 4),.f 6 0 5,.l 7 6,.ll 8 7,.bi 9 .sub 8 1,.m 10 1,.b 11 .gtr 9 10] <|
 .cond (.t 11)
 (.skip)
 (.exit 0)) <|
 .block 1 <|
 .o [.m 12 0,.e 13 14 (F 92) [.t 12]]
abbrev Is61 (P:Program) (F T:Nat→Nat):Prop:=Fn P (F 61) 14 [] (c61 F T)
def c62 (F T:Nat→Nat):C :=
 .n [.alloc 2 (T 11) [(.int .i64 0),(.int .i64 0),(.int .i64 0),.nils,.nils]] <|
 .seq (.p [.m 3 0,.nchk (some 4) (.t 3),.f 5 0 4,.l 6 5,.m 7 0,.nchk (some 8) (.t 7),.f 9 0 8,.l 10 9,.ll 11 10,.bi 12 .sub 11 1,.ia 13 5 6 12,.load (some 14) false 5 true (.t 13),.store 5 (.t 2) (.t 14)]) <|
 .ret
abbrev Is62 (P:Program) (F T:Nat→Nat):Prop:=Fn P (F 62) 15 [(2,(some (5,true)))] (c62 F T)
def c82 (F T:Nat→Nat):C :=
 .n [.box 3 (T 0) (.t 1)] <|
 .n [.m 7 0,.e 8 48 (F 62) [.t 7],.alloc 4 (T 11) [(.int .i64 0),(.int .i64 0),(.int .i64 0),.nils,.nils],.store 5 (.t 4) (.t 8)] <|
 .seqc (.seq (.ops false [⟨none,[.f 9 0 4,.l 10 9,.bi 11 .eql 10 3,.m 12 11]⟩,
 ⟨some (12,true),[.f 13 4 4,.l 14 13,.ll 15 14,.bi 16 .gtr 15 0]⟩,
 ⟨none,[.pf 17 12 16]⟩]) <|
 .cond (.t 17)
 (.gha .fz <| .n [.f 18 4 4,.l 19 18,.app 20 (T 1) 3 (.k .nils) (.t 19),.m 5 20] <|
 .n [.m 21 5,.m 22 5,.ll 23 22,.bi 24 .sub 23 1,.ia 25 3 21 24,.load (some 26) false 3 true (.t 25),.alloc 6 (T 1) [(.bool false),.nils,.nils],.store 3 (.t 6) (.t 26)] <|
 .n [.f 27 2 6,.l 28 27,.load (some 29) false 5 true (.t 3),.c 30 (F 109) [.t 28,.t 29],.f 31 2 6,.store 1 (.t 31) (.t 30)] <|
 .n [.m 32 5,.m 33 5,.ll 34 33,.bi 35 .sub 34 1,.load (some 36) false 3 true (.t 6),.ia 37 3 32 35,.store 3 (.t 37) (.t 36)] <|
 .o [.m 38 5,.f 39 4 4,.store 1 (.t 39) (.t 38)])
 (.o [.f 40 3 4,.l 41 40,.load (some 42) false 5 true (.t 3),.c 43 (F 109) [.t 41,.t 42],.f 44 3 4,.store 1 (.t 44) (.t 43)])) <|
 .o [.m 45 0,.load (some 46) false 5 true (.t 4),.e 47 48 (F 85) [.t 45,.t 46]]
abbrev Is82 (P:Program) (F T:Nat→Nat):Prop:=Fn P (F 82) 48 [] (c82 F T)
def c83 (F T:Nat→Nat):C :=
 .seq (.gha (.frzb 4) <| .o [.box 4 (T 11) (.t 1)]) <|
 .seq (.n [.m 6 0,.nchk (some 7) (.t 6),.f 8 0 7,.l 9 8,.ll 10 9,.bi 11 .sub 10 1,.bi 12 .geq 11 20] <|
 .cond (.t 12)
 (.n [.m 13 0,.m 14 2,.e 15 27 (F 86) [.t 13,.t 14]] <|
 .ret)
 (.skip)) <|
 .gha .fz <| .p [.m 16 0,.m 17 0,.nchk (some 18) (.t 17),.f 19 0 18,.l 20 19,.app 21 (T 11) 5 (.k .nils) (.t 20),.load (some 22) true 5 true (.t 4),.mkl (some 23) 5 [.t 22],.app 24 (T 11) 5 (.t 21) (.t 23),.nchk (some 25) (.t 16),.f 26 0 25,.store 1 (.t 26) (.t 24)]
abbrev Is83 (P:Program) (F T:Nat→Nat):Prop:=Fn P (F 83) 27 [] (c83 F T)
def c85 (F T:Nat→Nat):C :=
 .seq (.gha (.frzb 3) <| .o [.box 3 (T 11) (.t 1)]) <|
 .gha .fz <| .p [.m 4 0,.m 5 0,.nchk (some 6) (.t 5),.f 7 0 6,.l 8 7,.m 9 0,.nchk (some 10) (.t 9),.f 11 0 10,.l 12 11,.ll 13 12,.bi 14 .sub 13 1,.slc (some 15) 5 (.t 8) none (some (.t 14)),.app 16 (T 11) 5 (.k .nils) (.t 15),.load (some 17) true 5 true (.t 3),.mkl (some 18) 5 [.t 17],.app 19 (T 11) 5 (.t 16) (.t 18),.nchk (some 20) (.t 4),.f 21 0 20,.store 1 (.t 21) (.t 19)]
abbrev Is85 (P:Program) (F T:Nat→Nat):Prop:=Fn P (F 85) 22 [] (c85 F T)
def c86 (F T:Nat→Nat):C :=
 .o [.m 4 0,.m 5 1,.build (some 6) [(.int .i64 0),(.int .i64 0),(.str []),.nils,.nils] [(0,1,(.i 1)),(2,1,(.t 5))],.e 7 8 (F 82) [.t 4,.t 6]]
abbrev Is86 (P:Program) (F T:Nat→Nat):Prop:=Fn P (F 86) 8 [] (c86 F T)
def c87 (F T:Nat→Nat):C :=
 .n [.m 4 0,.e 5 49 (F 62) [.t 4],.alloc 2 (T 11) [(.int .i64 0),(.int .i64 0),(.int .i64 0),.nils,.nils],.store 5 (.t 2) (.t 5)] <|
 .seqc (.seq (.ops false [⟨none,[.f 6 0 2,.l 7 6,.bi 8 .neq 7 3,.m 9 8]⟩,
 ⟨some (9,false),[.f 10 4 2,.l 11 10,.ll 12 11,.bi 13 .eql 12 0]⟩,
 ⟨none,[.pt 14 9 13,.m 15 14]⟩,
 ⟨some (15,false),[.f 16 4 2,.l 17 16,.f 18 4 2,.l 19 18,.ll 20 19,.bi 21 .sub 20 1,.ia 22 3 17 21,.f 23 0 22,.l 24 23]⟩,
 ⟨none,[.pt 25 15 24]⟩]) <|
 .cond (.t 25)
 (.n [.m 26 0,.e 27 49 (F 86) [.t 26,.s [61]]] <|
 .ret)
 (.skip)) <|
 .n [.f 28 4 2,.l 29 28,.app 30 (T 1) 3 (.k .nils) (.t 29),.m 3 30] <|
 .n [.m 31 3,.m 32 3,.ll 33 32,.bi 34 .sub 33 1,.m 35 3,.m 36 3,.ll 37 36,.bi 38 .sub 37 1,.ia 39 3 35 38,.f 40 2 39,.l 41 40,.build (some 42) [(.bool false),.nils,.nils] [(0,1,(.k (.bool true))),(1,1,(.t 41))],.ia 43 3 31 34,.store 3 (.t 43) (.t 42)] <|
 .seq (.gha .fz <| .o [.m 44 3,.f 45 4 2,.store 1 (.t 45) (.t 44)]) <|
 .o [.m 46 0,.load (some 47) false 5 true (.t 2),.e 48 49 (F 85) [.t 46,.t 47]]
abbrev Is87 (P:Program) (F T:Nat→Nat):Prop:=Fn P (F 87) 49 [] (c87 F T)
def c88 (F T:Nat→Nat):C :=
 .n [.alloc 2 (T 11) [(.int .i64 0),(.int .i64 0),(.int .i64 0),.nils,.nils]] <|
 .n [.m 4 0,.e 5 22 (F 62) [.t 4],.alloc 3 (T 11) [(.int .i64 0),(.int .i64 0),(.int .i64 0),.nils,.nils],.store 5 (.t 3) (.t 5)] <|
 .seq (.gha .fz <| .p [.m 6 0,.m 7 0,.nchk (some 8) (.t 7),.f 9 0 8,.l 10 9,.m 11 0,.nchk (some 12) (.t 11),.f 13 0 12,.l 14 13,.ll 15 14,.bi 16 .sub 15 1,.slc (some 17) 5 (.t 10) none (some (.t 16)),.app 18 (T 11) 5 (.k .nils) (.t 17),.nchk (some 19) (.t 6),.f 20 0 19,.store 1 (.t 20) (.t 18)]) <|
 .n [.load (some 21) false 5 true (.t 3),.store 5 (.t 2) (.t 21)] <|
 .ret
abbrev Is88 (P:Program) (F T:Nat→Nat):Prop:=Fn P (F 88) 22 [(2,(some (5,true)))] (c88 F T)
def c89 (F T:Nat→Nat):C :=
 .n [.mov (some 4) (.i 0)] <|
 .block 0 <|
 .loop <|
 .seq (.n [.m 5 4,.m 6 1,.ll 7 6,.b 8 .lss 5 7] <|
 .cond (.t 8)
 (.skip)
 (.exit 0)) <|
 .seq (.block 1 <|
 .o [.m 11 0,.m 12 1,.m 13 4,.ia 14 5 12 13,.load (some 15) false 5 true (.t 14),.e 16 17 (F 82) [.t 11,.t 15]]) <|
 .o [.m 9 4,.bi 10 .add 9 1,.m 4 10]
abbrev Is89 (P:Program) (F T:Nat→Nat):Prop:=Fn P (F 89) 17 [] (c89 F T)
def c90 (F T:Nat→Nat):C :=
 .n [.mov (some 4) (.i 0)] <|
 .seq (.n [.m 6 0,.nchk (some 7) (.t 6),.f 8 0 7,.l 9 8,.ll 10 9,.bi 11 .sub 10 1,.m 5 11] <|
 .block 0 <|
 .loop <|
 .seq (.n [.m 12 5,.bi 13 .gtr 12 0] <|
 .cond (.t 13)
 (.skip)
 (.exit 0)) <|
 .seq (.block 1 <|
 .seq (.ops false [⟨none,[.m 16 0,.nchk (some 17) (.t 16),.f 18 0 17,.l 19 18,.m 20 5,.ia 21 5 19 20,.f 22 0 21,.l 23 22,.bi 24 .eql 23 2,.m 25 24]⟩,
 ⟨some (25,true),[.m 26 0,.nchk (some 27) (.t 26),.f 28 0 27,.l 29 28,.m 30 5,.ia 31 5 29 30,.f 32 1 31,.l 33 32,.m 34 1,.b 35 .eql 33 34]⟩,
 ⟨none,[.pf 36 25 35]⟩]) <|
 .cond (.t 36)
 (.n [.m 37 5,.m 4 37] <|
 .ret)
 (.skip)) <|
 .o [.m 14 5,.bi 15 .sub 14 1,.m 5 15]) <|
 .n [.mov (some 4) (.i 0)] <|
 .ret
abbrev Is90 (P:Program) (F T:Nat→Nat):Prop:=Fn P (F 90) 38 [(4,none)] (c90 F T)
def c91 (F T:Nat→Nat):C :=
 .seq (.block 0 <|
 .loop <|
 .seq (.n [.m 10 1,.bi 11 .geq 10 2] <|
 .cond (.t 11)
 (.skip)
 (.exit 0)) <|
 .block 1 <|
 .n [.m 12 0,.e 13 68 (F 110) [.t 12],.m 4 13] <|
 .seq (.n [.m 14 4,.bi 15 .eql 14 0] <|
 .cond (.t 15)
 (.exit 0)
 (.skip)) <|
 .n [.m 16 0,.m 17 4,.e 18 68 (F 61) [.t 16,.t 17]] <|
 .n [.m 19 0,.e 20 68 (F 88) [.t 19],.alloc 5 (T 11) [(.int .i64 0),(.int .i64 0),(.int .i64 0),.nils,.nils],.store 5 (.t 5) (.t 20)] <|
 .n [.mov (some 6) (.i 2),.mov (some 7) (.i 4)] <|
 .seqc (.seq (.ops false [⟨none,[.m 21 1,.bi 22 .geq 21 3,.m 23 22]⟩,
 ⟨some (23,true),[.f 24 2 5,.l 25 24,.bi 26 .geq 25 3]⟩,
 ⟨none,[.pf 27 23 26]⟩]) <|
 .cond (.t 27)
 (.o [.mov (some 6) (.i 3),.mov (some 7) (.i 5)])
 (.skip)) <|
 .seq (.gha (.frzb 8) <| .o [.m 28 7,.f 29 3 5,.l 30 29,.f 31 4 5,.l 32 31,.build (some 33) [(.int .i64 0),(.int .i64 0),(.str []),.nils,.nils] [(0,1,(.t 28)),(3,1,(.t 30)),(4,1,(.t 32))],.alloc 8 (T 0) [(.int .i64 0),(.int .i64 0),(.str []),.nils,.nils],.store 5 (.t 8) (.t 33)]) <|
 .n [.m 34 1,.m 35 6,.b 36 .sub 34 35,.m 1 36] <|
 .n [.f 37 2 5,.l 38 37,.m 39 6,.b 40 .sub 38 39,.m 9 40] <|
 .seq (.n [.m 41 9,.bi 42 .geq 41 2] <|
 .cond (.t 42)
 (.seq (.gha .fz <| .p [.m 43 0,.m 44 0,.nchk (some 45) (.t 44),.f 46 0 45,.l 47 46,.app 48 (T 11) 5 (.k .nils) (.t 47),.m 49 9,.load (some 50) true 5 true (.t 8),.mkl (some 51) 5 [.t 50],.build (some 52) [(.int .i64 0),(.int .i64 0),(.int .i64 0),.nils,.nils] [(0,1,(.i 3)),(2,1,(.t 49)),(3,1,(.t 51))],.mkl (some 53) 5 [.t 52],.app 54 (T 11) 5 (.t 48) (.t 53),.nchk (some 55) (.t 43),.f 56 0 55,.store 1 (.t 56) (.t 54)]) <|
 .exit 1)
 (.skip)) <|
 .seqc (.n [.m 57 9,.bi 58 .eql 57 1] <|
 .cond (.t 58)
 (.o [.m 59 0,.e 60 68 (F 86) [.t 59,.s [123]]])
 (.skip)) <|
 .o [.m 61 0,.load (some 62) false 5 true (.t 8),.e 63 68 (F 82) [.t 61,.t 62]]) <|
 .o [.m 64 0,.m 65 1,.c 66 (F 111) [.t 65,.s [125]],.e 67 68 (F 86) [.t 64,.t 66]]
abbrev Is91 (P:Program) (F T:Nat→Nat):Prop:=Fn P (F 91) 68 [] (c91 F T)
def c92 (F T:Nat→Nat):C :=
 .n [.m 4 0,.e 5 71 (F 88) [.t 4],.alloc 2 (T 11) [(.int .i64 0),(.int .i64 0),(.int .i64 0),.nils,.nils],.store 5 (.t 2) (.t 5)] <|
 .n [.f 6 0 2,.l 7 6] <|
 .block 0 <|
 .n [.bi 9 .eql 7 1,.m 8 9] <|
 .cond (.t 8)
 (.n [.m 10 0,.e 11 71 (F 86) [.t 10,.s [91,91]]] <|
 .o [.m 12 0,.f 13 3 2,.l 14 13,.e 15 71 (F 89) [.t 12,.t 14]])
 (.n [.bi 17 .eql 7 2,.m 16 17] <|
 .cond (.t 16)
 (.n [.m 18 0,.f 19 1 2,.l 20 19,.c 21 (F 25) [.t 20,(.k (.bool false))],.e 22 71 (F 86) [.t 18,.t 21]] <|
 .o [.m 23 0,.f 24 3 2,.l 25 24,.e 26 71 (F 89) [.t 23,.t 25]])
 (.n [.bi 28 .eql 7 3,.m 27 28] <|
 .cond (.t 27)
 (.n [.m 29 0,.f 30 2 2,.l 31 30,.c 32 (F 111) [.t 31,.s [123]],.e 33 71 (F 86) [.t 29,.t 32]] <|
 .n [.m 34 0,.f 35 3 2,.l 36 35,.e 37 71 (F 89) [.t 34,.t 36]] <|
 .n [.mov (some 3) (.i 0)] <|
 .block 1 <|
 .loop <|
 .seq (.n [.m 38 3,.f 39 4 2,.l 40 39,.ll 41 40,.b 42 .lss 38 41] <|
 .cond (.t 42)
 (.skip)
 (.exit 1)) <|
 .seqc (.block 2 <|
 .n [.m 45 0,.e 46 71 (F 86) [.t 45,.s [124]]] <|
 .seqc (.n [.f 47 4 2,.l 48 47,.m 49 3,.ia 50 3 48 49,.f 51 0 50,.l 52 51] <|
 .cond (.t 52)
 (.n [.m 53 0,.f 54 4 2,.l 55 54,.m 56 3,.ia 57 3 55 56,.f 58 1 57,.l 59 58,.e 60 71 (F 89) [.t 53,.t 59]] <|
 .o [.m 61 0,.e 62 71 (F 86) [.t 61,.s [61]]])
 (.skip)) <|
 .o [.m 63 0,.f 64 4 2,.l 65 64,.m 66 3,.ia 67 3 65 66,.f 68 2 67,.l 69 68,.e 70 71 (F 89) [.t 63,.t 69]]) <|
 .o [.m 43 3,.bi 44 .add 43 1,.m 3 44])
 (.skip)))
abbrev Is92 (P:Program) (F T:Nat→Nat):Prop:=Fn P (F 92) 71 [] (c92 F T)
def c109 (F T:Nat→Nat):C :=
 .n [.box 3 (T 0) (.t 1),.mov (some 4) (.k .nils)] <|
 .n [.m 6 0,.app 7 (T 0) 5 (.k .nils) (.t 6),.m 5 7] <|
 .seqc (.n [.f 8 0 3,.l 9 8,.bi 10 .eql 9 1] <|
 .cond (.t 10)
 (.seq (.n [.f 11 2 3,.l 12 11,.bin (some 13) .eql (.t 12) (.s [])] <|
 .cond (.t 13)
 (.n [.m 14 5,.m 4 14] <|
 .ret)
 (.skip)) <|
 .seq (.ops false [⟨none,[.m 15 5,.ll 16 15,.bi 17 .gtr 16 0,.m 18 17]⟩,
 ⟨some (18,true),[.m 19 5,.m 20 5,.ll 21 20,.bi 22 .sub 21 1,.ia 23 5 19 22,.f 24 0 23,.l 25 24,.bi 26 .eql 25 1]⟩,
 ⟨none,[.pf 27 18 26]⟩]) <|
 .cond (.t 27)
 (.seq (.p [.m 28 5,.m 29 5,.ll 30 29,.bi 31 .sub 30 1,.m 32 5,.m 33 5,.ll 34 33,.bi 35 .sub 34 1,.ia 36 5 32 35,.f 37 2 36,.l 38 37,.f 39 2 3,.l 40 39,.b 41 .add 38 40,.build (some 42) [(.int .i64 0),(.int .i64 0),(.str []),.nils,.nils] [(0,1,(.i 1)),(2,1,(.t 41))],.ia 43 5 28 31,.store 5 (.t 43) (.t 42)]) <|
 .n [.m 44 5,.m 4 44] <|
 .ret)
 (.skip))
 (.skip)) <|
 .n [.m 45 5,.load (some 46) false 5 true (.t 3),.mkl (some 47) 5 [.t 46],.app 48 (T 0) 5 (.t 45) (.t 47),.m 4 48] <|
 .ret
abbrev aZ8 (P:Program) (F T:Nat→Nat):Prop:=Fn P (F 109) 49 [(4,none)] (c109 F T)
def c110 (F T:Nat→Nat):C :=
 .n [.mov (some 2) (.i 0)] <|
 .seq (.n [.m 4 0,.nchk (some 5) (.t 4),.f 6 0 5,.l 7 6,.ll 8 7,.bi 9 .sub 8 1,.m 3 9] <|
 .block 0 <|
 .loop <|
 .seq (.seq (.ops false [⟨none,[.m 10 3,.bi 11 .gtr 10 0,.m 12 11]⟩,
 ⟨some (12,true),[.m 13 0,.nchk (some 14) (.t 13),.f 15 0 14,.l 16 15,.m 17 3,.ia 18 5 16 17,.f 19 0 18,.l 20 19,.bi 21 .neq 20 2]⟩,
 ⟨none,[.pf 22 12 21]⟩]) <|
 .cond (.t 22)
 (.skip)
 (.exit 0)) <|
 .seq (.block 1 <|
 .n [.m 25 0,.nchk (some 26) (.t 25),.f 27 0 26,.l 28 27,.m 29 3,.ia 30 5 28 29,.f 31 0 30,.l 32 31,.bi 33 .eql 32 3] <|
 .cond (.t 33)
 (.n [.m 34 3,.m 2 34] <|
 .ret)
 (.skip)) <|
 .o [.m 23 3,.bi 24 .sub 23 1,.m 3 24]) <|
 .n [.mov (some 2) (.i 0)] <|
 .ret
abbrev bLx (P:Program) (F T:Nat→Nat):Prop:=Fn P (F 110) 35 [(2,none)] (c110 F T)
def c111 (F T:Nat→Nat):C :=
 .n [.mov (some 4) (.s [])] <|
 .n [.mov (some 5) (.s [])] <|
 .seq (.n [.mov (some 6) (.i 0)] <|
 .block 0 <|
 .loop <|
 .seq (.n [.m 7 6,.m 8 0,.b 9 .lss 7 8] <|
 .cond (.t 9)
 (.skip)
 (.exit 0)) <|
 .seq (.block 1 <|
 .o [.m 12 5,.m 13 1,.b 14 .add 12 13,.m 5 14]) <|
 .o [.m 10 6,.bi 11 .add 10 1,.m 6 11]) <|
 .n [.m 15 5,.m 4 15] <|
 .ret
abbrev bHg (P:Program) (F T:Nat→Nat):Prop:=Fn P (F 111) 16 [(4,none)] (c111 F T)
end Go.Ab
