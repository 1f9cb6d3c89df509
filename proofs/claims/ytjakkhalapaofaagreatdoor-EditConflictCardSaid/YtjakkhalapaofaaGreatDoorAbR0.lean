/- Lowered code of the functions, by program. No condition. -/
import Derived.Test.YtjakkhalapaofaaGreatDoorAbP1
set_option linter.unusedVariables false
namespace Go.Ab
def c37 (F T:Nat→Nat):C :=
 .n [.mov (some 2) (.k .nils),.mov (some 3) (.i 0)] <|
 .n [.m 9 0,.c 10 (F 50) [.t 9],.m 8 10,.x 11 0 8,.x 12 1 8,.m 4 11,.m 5 12] <|
 .seq (.n [.m 13 5,.bi 14 .neq 13 0] <|
 .cond (.t 14)
 (.n [.m 15 5,.mov (some 2) (.k .nils),.m 3 15] <|
 .ret)
 (.skip)) <|
 .seq (.gha .fz <| .o [.build (some 16) [(.int .i64 0),(.int .i64 0),(.int .i64 0),.nils,.nils] [],.mkl (some 17) 5 [.t 16],.build (some 18) [.nils] [(0,1,(.t 17))],.box 19 (T 9) (.t 18),.m 6 19]) <|
 .seq (.n [.mov (some 7) (.i 0)] <|
 .block 0 <|
 .loop <|
 .seq (.n [.m 20 7,.m 21 4,.ll 22 21,.b 23 .lss 20 22] <|
 .cond (.t 23)
 (.skip)
 (.exit 0)) <|
 .seq (.block 1 <|
 .o [.m 26 6,.m 27 0,.m 28 4,.m 29 7,.ia 30 3 28 29,.load (some 31) false 3 true (.t 30),.e 32 38 (F 60) [.t 26,.t 27,.t 31]]) <|
 .o [.m 24 7,.bi 25 .add 24 1,.m 7 25]) <|
 .n [.m 33 6,.e 34 38 (F 61) [.t 33,.i 0]] <|
 .n [.m 35 6,.e 36 38 (F 62) [.t 35],.field (some 37) 3 1 false (.t 36),.m 2 37,.mov (some 3) (.i 0)] <|
 .ret
abbrev Is37 (P:Program) (F T:Nat→Nat):Prop:=Fn P (F 37) 38 [(2,none),(3,none)] (c37 F T)
def c60 (F T:Nat→Nat):C :=
 .n [.box 5 (T 8) (.t 2)] <|
 .n [.m 11 1,.load (some 12) false 3 true (.t 5),.c 13 (F 81) [.t 11,.t 12],.m 6 13] <|
 .n [.f 14 0 5,.l 15 14] <|
 .block 0 <|
 .n [.bi 20 .eql 15 9,.m 19 20] <|
 .cond (.t 19)
 (.o [.m 21 0,.m 22 6,.build (some 23) [(.int .i64 0),(.int .i64 0),(.str []),.nils,.nils] [(0,1,(.i 2)),(2,1,(.t 22))],.e 24 131 (F 82) [.t 21,.t 23]])
 (.n [.bi 26 .eql 15 10,.m 25 26] <|
 .cond (.t 25)
 (.o [.m 27 0,.m 28 6,.m 29 6,.ls 30 29,.bi 31 .sub 30 9,.slcS (some 32) (.t 28) (some (.i 8)) (some (.t 31)),.build (some 33) [(.int .i64 0),(.int .i64 0),(.str []),.nils,.nils] [(0,1,(.i 3)),(2,1,(.t 32))],.e 34 131 (F 82) [.t 27,.t 33]])
 (.n [.bi 36 .eql 15 3,.m 35 36] <|
 .cond (.t 35)
 (.o [.m 37 0,.m 38 6,.ls 39 38,.build (some 40) [(.int .i64 0),(.int .i64 0),(.int .i64 0),.nils,.nils] [(0,1,(.i 3)),(2,1,(.t 39))],.m 41 6,.e 42 131 (F 83) [.t 37,.t 40,.t 41]])
 (.n [.bi 44 .eql 15 5,.m 43 44] <|
 .cond (.t 43)
 (.o [.m 45 0,.build (some 46) [(.int .i64 0),(.int .i64 0),(.int .i64 0),.nils,.nils] [(0,1,(.i 1))],.m 47 6,.e 48 131 (F 83) [.t 45,.t 46,.t 47]])
 (.n [.bi 50 .eql 15 11,.m 49 50] <|
 .cond (.t 49)
 (.o [.m 51 0,.m 52 1,.load (some 53) false 3 true (.t 5),.c 54 (F 84) [.t 52,.t 53],.build (some 55) [(.int .i64 0),(.int .i64 0),(.int .i64 0),.nils,.nils] [(0,1,(.i 2)),(1,1,(.t 54))],.m 56 6,.e 57 131 (F 83) [.t 51,.t 55,.t 56]])
 (.n [.bi 59 .eql 15 7,.m 58 59] <|
 .cond (.t 58)
 (.seq (.n [.m 60 0,.e 61 131 (F 62) [.t 60],.alloc 7 (T 11) [(.int .i64 0),(.int .i64 0),(.int .i64 0),.nils,.nils],.store 5 (.t 7) (.t 61)] <|
 .n [.f 62 0 7,.l 63 62,.bi 64 .eql 63 3] <|
 .cond (.t 64)
 (.seq (.gha .fz <| .o [.f 65 4 7,.l 66 65,.app 67 (T 1) 3 (.k .nils) (.t 66),.build (some 68) [(.bool false),.nils,.nils] [],.mkl (some 69) 3 [.t 68],.app 70 (T 1) 3 (.t 67) (.t 69),.f 71 4 7,.store 1 (.t 71) (.t 70)]) <|
 .n [.m 72 0,.load (some 73) false 5 true (.t 7),.e 74 131 (F 85) [.t 72,.t 73]] <|
 .ret)
 (.skip)) <|
 .o [.m 75 0,.m 76 6,.e 77 131 (F 86) [.t 75,.t 76]])
 (.n [.bi 79 .eql 15 8,.m 78 79] <|
 .cond (.t 78)
 (.o [.m 80 0,.e 81 131 (F 87) [.t 80]])
 (.n [.bi 83 .eql 15 6,.m 82 83] <|
 .cond (.t 82)
 (.seq (.n [.m 84 0,.e 85 131 (F 62) [.t 84],.field (some 86) 0 1 false (.t 85),.bi 87 .neq 86 1] <|
 .cond (.t 87)
 (.n [.m 88 0,.m 89 6,.e 90 131 (F 86) [.t 88,.t 89]] <|
 .ret)
 (.skip)) <|
 .n [.m 91 0,.e 92 131 (F 88) [.t 91],.alloc 8 (T 11) [(.int .i64 0),(.int .i64 0),(.int .i64 0),.nils,.nils],.store 5 (.t 8) (.t 92)] <|
 .n [.m 93 0,.e 94 131 (F 86) [.t 93,.s [91,91]]] <|
 .n [.m 95 0,.f 96 3 8,.l 97 96,.e 98 131 (F 89) [.t 95,.t 97]] <|
 .o [.m 99 0,.e 100 131 (F 86) [.t 99,.s [93,93]]])
 (.n [.bi 102 .eql 15 12,.m 101 102] <|
 .cond (.t 101)
 (.n [.m 103 0,.m 104 1,.load (some 105) false 3 true (.t 5),.c 106 (F 84) [.t 104,.t 105],.e 107 131 (F 90) [.t 103,.t 106],.m 9 107] <|
 .seq (.n [.m 108 9,.bi 109 .eql 108 0] <|
 .cond (.t 109)
 (.n [.m 110 0,.m 111 6,.e 112 131 (F 86) [.t 110,.t 111]] <|
 .ret)
 (.skip)) <|
 .n [.m 113 0,.m 114 9,.e 115 131 (F 61) [.t 113,.t 114]] <|
 .n [.m 116 0,.e 117 131 (F 88) [.t 116],.alloc 10 (T 11) [(.int .i64 0),(.int .i64 0),(.int .i64 0),.nils,.nils],.store 5 (.t 10) (.t 117)] <|
 .o [.m 118 0,.f 119 1 10,.l 120 119,.f 121 3 10,.l 122 121,.build (some 123) [(.int .i64 0),(.int .i64 0),(.str []),.nils,.nils] [(0,1,(.i 6)),(1,1,(.t 120)),(3,1,(.t 122))],.e 124 131 (F 82) [.t 118,.t 123]])
 (.n [.bi 126 .eql 15 4,.m 125 126] <|
 .cond (.t 125)
 (.o [.m 127 0,.m 128 6,.ls 129 128,.e 130 131 (F 91) [.t 127,.t 129]])
 (.o [.m 16 0,.m 17 6,.e 18 131 (F 86) [.t 16,.t 17]]))))))))))
abbrev Is60 (P:Program) (F T:Nat→Nat):Prop:=Fn P (F 60) 131 [] (c60 F T)
def c61 (F T:Nat→Nat):C :=
 .block 0 <|
 .loop <|
 .seq (.n [.m 4 0,.nchk (some 5) (.t 4),.f 6 0 5,.l 7 6,.ll 8 7,.bi 9 .sub 8 1,.m 10 1,.b 11 .gtr 9 10] <|
 .cond (.t 11)
 (.skip)
 (.exit 0)) <|
 .block 1 <|
 .o [.m 12 0,.e 13 14 (F 92) [.t 12]]
abbrev Is61 (P:Program) (F T:Nat→Nat):Prop:=Fn P (F 61) 14 [] (c61 F T)
def c62 (F T:Nat→Nat):C :=
 .n [.alloc 2 (T 11) [(.int .i64 0),(.int .i64 0),(.int .i64 0),.nils,.nils]] <|
 .seq (.p [.m 3 0,.nchk (some 4) (.t 3),.f 5 0 4,.l 6 5,.m 7 0,.nchk (some 8) (.t 7),.f 9 0 8,.l 10 9,.ll 11 10,.bi 12 .sub 11 1,.ia 13 5 6 12,.load (some 14) false 5 true (.t 13),.store 5 (.t 2) (.t 14)]) <|
 .ret
abbrev Is62 (P:Program) (F T:Nat→Nat):Prop:=Fn P (F 62) 15 [(2,(some (5,true)))] (c62 F T)
def c82 (F T:Nat→Nat):C :=
 .n [.box 3 (T 0) (.t 1)] <|
 .n [.m 7 0,.e 8 48 (F 62) [.t 7],.alloc 4 (T 11) [(.int .i64 0),(.int .i64 0),(.int .i64 0),.nils,.nils],.store 5 (.t 4) (.t 8)] <|
 .seqc (.seq (.ops false [⟨none,[.f 9 0 4,.l 10 9,.bi 11 .eql 10 3,.m 12 11]⟩,
 ⟨some (12,true),[.f 13 4 4,.l 14 13,.ll 15 14,.bi 16 .gtr 15 0]⟩,
 ⟨none,[.pf 17 12 16]⟩]) <|
 .cond (.t 17)
 (.gha .fz <| .n [.f 18 4 4,.l 19 18,.app 20 (T 1) 3 (.k .nils) (.t 19),.m 5 20] <|
 .n [.m 21 5,.m 22 5,.ll 23 22,.bi 24 .sub 23 1,.ia 25 3 21 24,.load (some 26) false 3 true (.t 25),.alloc 6 (T 1) [(.bool false),.nils,.nils],.store 3 (.t 6) (.t 26)] <|
 .n [.f 27 2 6,.l 28 27,.load (some 29) false 5 true (.t 3),.c 30 (F 109) [.t 28,.t 29],.f 31 2 6,.store 1 (.t 31) (.t 30)] <|
 .n [.m 32 5,.m 33 5,.ll 34 33,.bi 35 .sub 34 1,.load (some 36) false 3 true (.t 6),.ia 37 3 32 35,.store 3 (.t 37) (.t 36)] <|
 .o [.m 38 5,.f 39 4 4,.store 1 (.t 39) (.t 38)])
 (.o [.f 40 3 4,.l 41 40,.load (some 42) false 5 true (.t 3),.c 43 (F 109) [.t 41,.t 42],.f 44 3 4,.store 1 (.t 44) (.t 43)])) <|
 .o [.m 45 0,.load (some 46) false 5 true (.t 4),.e 47 48 (F 85) [.t 45,.t 46]]
abbrev Is82 (P:Program) (F T:Nat→Nat):Prop:=Fn P (F 82) 48 [] (c82 F T)
def c85 (F T:Nat→Nat):C :=
 .seq (.gha (.frzb 3) <| .o [.box 3 (T 11) (.t 1)]) <|
 .gha .fz <| .p [.m 4 0,.m 5 0,.nchk (some 6) (.t 5),.f 7 0 6,.l 8 7,.m 9 0,.nchk (some 10) (.t 9),.f 11 0 10,.l 12 11,.ll 13 12,.bi 14 .sub 13 1,.slc (some 15) 5 (.t 8) none (some (.t 14)),.app 16 (T 11) 5 (.k .nils) (.t 15),.load (some 17) true 5 true (.t 3),.mkl (some 18) 5 [.t 17],.app 19 (T 11) 5 (.t 16) (.t 18),.nchk (some 20) (.t 4),.f 21 0 20,.store 1 (.t 21) (.t 19)]
abbrev Is85 (P:Program) (F T:Nat→Nat):Prop:=Fn P (F 85) 22 [] (c85 F T)
def c86 (F T:Nat→Nat):C :=
 .o [.m 4 0,.m 5 1,.build (some 6) [(.int .i64 0),(.int .i64 0),(.str []),.nils,.nils] [(0,1,(.i 1)),(2,1,(.t 5))],.e 7 8 (F 82) [.t 4,.t 6]]
abbrev Is86 (P:Program) (F T:Nat→Nat):Prop:=Fn P (F 86) 8 [] (c86 F T)
def c87 (F T:Nat→Nat):C :=
 .n [.m 4 0,.e 5 49 (F 62) [.t 4],.alloc 2 (T 11) [(.int .i64 0),(.int .i64 0),(.int .i64 0),.nils,.nils],.store 5 (.t 2) (.t 5)] <|
 .seqc (.seq (.ops false [⟨none,[.f 6 0 2,.l 7 6,.bi 8 .neq 7 3,.m 9 8]⟩,
 ⟨some (9,false),[.f 10 4 2,.l 11 10,.ll 12 11,.bi 13 .eql 12 0]⟩,
 ⟨none,[.pt 14 9 13,.m 15 14]⟩,
 ⟨some (15,false),[.f 16 4 2,.l 17 16,.f 18 4 2,.l 19 18,.ll 20 19,.bi 21 .sub 20 1,.ia 22 3 17 21,.f 23 0 22,.l 24 23]⟩,
 ⟨none,[.pt 25 15 24]⟩]) <|
 .cond (.t 25)
 (.n [.m 26 0,.e 27 49 (F 86) [.t 26,.s [61]]] <|
 .ret)
 (.skip)) <|
 .n [.f 28 4 2,.l 29 28,.app 30 (T 1) 3 (.k .nils) (.t 29),.m 3 30] <|
 .n [.m 31 3,.m 32 3,.ll 33 32,.bi 34 .sub 33 1,.m 35 3,.m 36 3,.ll 37 36,.bi 38 .sub 37 1,.ia 39 3 35 38,.f 40 2 39,.l 41 40,.build (some 42) [(.bool false),.nils,.nils] [(0,1,(.k (.bool true))),(1,1,(.t 41))],.ia 43 3 31 34,.store 3 (.t 43) (.t 42)] <|
 .seq (.gha .fz <| .o [.m 44 3,.f 45 4 2,.store 1 (.t 45) (.t 44)]) <|
 .o [.m 46 0,.load (some 47) false 5 true (.t 2),.e 48 49 (F 85) [.t 46,.t 47]]
abbrev Is87 (P:Program) (F T:Nat→Nat):Prop:=Fn P (F 87) 49 [] (c87 F T)
def c109 (F T:Nat→Nat):C :=
 .n [.box 3 (T 0) (.t 1),.mov (some 4) (.k .nils)] <|
 .n [.m 6 0,.app 7 (T 0) 5 (.k .nils) (.t 6),.m 5 7] <|
 .seqc (.n [.f 8 0 3,.l 9 8,.bi 10 .eql 9 1] <|
 .cond (.t 10)
 (.seq (.n [.f 11 2 3,.l 12 11,.bin (some 13) .eql (.t 12) (.s [])] <|
 .cond (.t 13)
 (.n [.m 14 5,.m 4 14] <|
 .ret)
 (.skip)) <|
 .seq (.ops false [⟨none,[.m 15 5,.ll 16 15,.bi 17 .gtr 16 0,.m 18 17]⟩,
 ⟨some (18,true),[.m 19 5,.m 20 5,.ll 21 20,.bi 22 .sub 21 1,.ia 23 5 19 22,.f 24 0 23,.l 25 24,.bi 26 .eql 25 1]⟩,
 ⟨none,[.pf 27 18 26]⟩]) <|
 .cond (.t 27)
 (.seq (.p [.m 28 5,.m 29 5,.ll 30 29,.bi 31 .sub 30 1,.m 32 5,.m 33 5,.ll 34 33,.bi 35 .sub 34 1,.ia 36 5 32 35,.f 37 2 36,.l 38 37,.f 39 2 3,.l 40 39,.b 41 .add 38 40,.build (some 42) [(.int .i64 0),(.int .i64 0),(.str []),.nils,.nils] [(0,1,(.i 1)),(2,1,(.t 41))],.ia 43 5 28 31,.store 5 (.t 43) (.t 42)]) <|
 .n [.m 44 5,.m 4 44] <|
 .ret)
 (.skip))
 (.skip)) <|
 .n [.m 45 5,.load (some 46) false 5 true (.t 3),.mkl (some 47) 5 [.t 46],.app 48 (T 0) 5 (.t 45) (.t 47),.m 4 48] <|
 .ret
abbrev bA0 (P:Program) (F T:Nat→Nat):Prop:=Fn P (F 109) 49 [(4,none)] (c109 F T)
end Go.Ab
