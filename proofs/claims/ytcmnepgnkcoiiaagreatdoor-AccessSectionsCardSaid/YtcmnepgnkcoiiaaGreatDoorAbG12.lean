/- Lowered code of the functions, by program. No condition. -/
import Derived.Test.YtcmnepgnkcoiiaaGreatDoorAbG11
set_option linter.unusedVariables false
namespace Go.Ab
def c180 (F T:Nat→Nat):C :=
 .n [.box 2 (T 16) (.t 0),.box 3 (T 21) (.t 1),.mov (some 4) (.k .nils)] <|
 .n [.mkv 10 (T 21) 1 [.s [97,108,108]],.alloc 5 (T 26) [.nils],.store 1 (.t 5) (.t 10)] <|
 .n [.l 11 3,.c 12 (F 191) [.t 11],.alloc 6 (T 15) [(.bool false)],.store 1 (.t 6) (.t 12)] <|
 .seqc (.n [.l 13 6] <|
 .cond (.t 13)
 (.o [.l 14 5,.mkl (some 15) 1 [.s [117,115,101,114,115]],.app 16 (T 21) 1 (.t 14) (.t 15),.store 1 (.t 5) (.t 16)])
 (.skip)) <|
 .seq (.n [.mov (some 7) (.k (.bool true))] <|
 .block 0 <|
 .loop <|
 .seq (.n [.m 17 7] <|
 .cond (.t 17)
 (.skip)
 (.exit 0)) <|
 .block 1 <|
 .n [.mov (some 7) (.k (.bool false))] <|
 .n [.f 18 0 2,.l 19 18,.ll 20 19,.mov (some 21) (.i 0)] <|
 .block 2 <|
 .loop <|
 .n [.b 22 .lss 21 20] <|
 .seq (.cond (.t 22)
 (.skip)
 (.exit 2)) <|
 .seq (.block 3 <|
 .n [.ia 23 2 19 21,.load (some 24) false 2 true (.t 23),.alloc 9 (T 22) [(.str []),.nils],.store 2 (.t 9) (.t 24)] <|
 .seq (.n [.l 25 5,.f 26 0 9,.l 27 26,.call (some 28) false (F 220) [.t 25,.t 27]] <|
 .cond (.t 28)
 (.exit 3)
 (.skip)) <|
 .n [.f 29 1 9,.l 30 29,.clos (some 31) (F 225) [.t 6,.t 3,.t 5],.e 32 42 (F 223) [.t 30,.t 31]] <|
 .cond (.t 32)
 (.n [.l 33 5,.f 34 0 9,.l 35 34,.mkl (some 36) 1 [.t 35],.app 37 (T 21) 1 (.t 33) (.t 36),.store 1 (.t 5) (.t 37)] <|
 .o [.mov (some 7) (.k (.bool true))])
 (.skip)) <|
 .o [.bi 38 .add 21 1,.m 21 38]) <|
 .n [.l 39 5,.e 40 42 (F 226) [.t 39]] <|
 .n [.l 41 5,.m 4 41] <|
 .ret
abbrev bGh (P:Program) (F T:Nat→Nat):Prop:=Fn P (F 180) 42 [(4,none)] (c180 F T)
def c181 (F T:Nat→Nat):C :=
 .n [.box 1 (T 17) (.t 0),.mov (some 2) (.k .nils)] <|
 .n [.load (some 7) false 2 true (.t 1),.build (some 8) [(.int .i64 0),(.int .i64 0),(.str [])] [(0,1,(.i 3)),(1,2,(.t 7))],.mkv 9 (T 18) 3 [.t 8],.m 3 9] <|
 .n [.load (some 10) false 2 true (.t 1),.e 11 34 (F 186) [.t 10],.m 4 11] <|
 .n [.m 12 4,.e 13 34 (F 229) [.t 12]] <|
 .seq (.n [.m 14 4,.ll 15 14,.mov (some 16) (.i 0)] <|
 .block 0 <|
 .loop <|
 .n [.b 17 .lss 16 15] <|
 .seq (.cond (.t 17)
 (.skip)
 (.exit 0)) <|
 .seq (.block 1 <|
 .n [.ia 18 2 14 16,.load (some 19) false 2 true (.t 18),.alloc 6 (T 17) [(.int .i64 0),(.str [])],.store 2 (.t 6) (.t 19)] <|
 .o [.m 20 3,.load (some 21) false 2 true (.t 6),.build (some 22) [(.int .i64 0),(.int .i64 0),(.str [])] [(0,1,(.i 3)),(1,2,(.t 21))],.mkl (some 23) 3 [.t 22],.app 24 (T 18) 3 (.t 20) (.t 23),.m 3 24]) <|
 .o [.bi 25 .add 16 1,.m 16 25]) <|
 .n [.m 26 3,.f 27 0 1,.l 28 27,.build (some 29) [(.int .i64 0),(.str [])] [(0,1,(.t 28))],.build (some 30) [(.int .i64 0),(.int .i64 0),(.str [])] [(0,1,(.i 2)),(1,2,(.t 29))],.build (some 31) [(.int .i64 0),(.int .i64 0),(.str [])] [(0,1,(.i 1))],.mkl (some 32) 3 [.t 30,.t 31],.app 33 (T 18) 3 (.t 26) (.t 32),.m 2 33] <|
 .ret
abbrev bE0 (P:Program) (F T:Nat→Nat):Prop:=Fn P (F 181) 34 [(2,none)] (c181 F T)
def c226 (F T:Nat→Nat):C :=
 .n [.m 3 0,.ll 4 3,.m 2 4] <|
 .o [.m 5 0,.m 6 2,.m 7 2,.cvt (some 8) .u64 (.t 7),.c 9 (F 227) [.t 8],.e 10 11 (F 228) [.t 5,.i 0,.t 6,.t 9]]
abbrev bCc (P:Program) (F T:Nat→Nat):Prop:=Fn P (F 226) 11 [] (c226 F T)
def c228 (F T:Nat→Nat):C :=
 .n [.mov (some 8) (.k (.bool true))] <|
 .n [.mov (some 9) (.k (.bool true))] <|
 .block 0 <|
 .loop <|
 .block 1 <|
 .n [.m 19 2,.m 20 1,.b 21 .sub 19 20,.m 10 21] <|
 .seq (.n [.m 22 10,.bi 23 .leq 22 12] <|
 .cond (.t 23)
 (.n [.m 24 0,.m 25 1,.m 26 2,.e 27 134 (F 230) [.t 24,.t 25,.t 26]] <|
 .ret)
 (.skip)) <|
 .seq (.n [.m 28 3,.bi 29 .eql 28 0] <|
 .cond (.t 29)
 (.n [.m 30 0,.m 31 1,.m 32 2,.c 33 (F 231) [.t 30,.t 31,.t 32]] <|
 .ret)
 (.skip)) <|
 .seq (.n [.m 34 8,.un (some 35) .not (.t 34)] <|
 .cond (.t 35)
 (.n [.m 36 0,.m 37 1,.m 38 2,.c 39 (F 232) [.t 36,.t 37,.t 38]] <|
 .o [.m 40 3,.bi 41 .sub 40 1,.m 3 41])
 (.skip)) <|
 .n [.m 43 0,.m 44 1,.m 45 2,.c 46 (F 233) [.t 43,.t 44,.t 45],.m 42 46,.x 47 0 42,.x 48 1 42,.m 11 47,.m 12 48] <|
 .seq (.n [.m 49 12,.bi 50 .eql 49 2] <|
 .cond (.t 50)
 (.n [.m 51 0,.m 52 1,.m 53 2,.c 54 (F 234) [.t 51,.t 52,.t 53]] <|
 .n [.m 55 2,.bi 56 .sub 55 1,.m 57 11,.m 58 1,.b 59 .sub 57 58,.b 60 .sub 56 59,.m 11 60] <|
 .o [.mov (some 12) (.i 1)])
 (.skip)) <|
 .seq (.seq (.ops false [⟨none,[.m 61 8,.m 62 61]⟩,
 ⟨some (62,true),[.m 63 9]⟩,
 ⟨none,[.pf 64 62 63,.m 65 64]⟩,
 ⟨some (65,true),[.m 66 12,.bi 67 .eql 66 1]⟩,
 ⟨none,[.pf 68 65 67]⟩]) <|
 .cond (.t 68)
 (.n [.m 69 0,.m 70 1,.m 71 2,.c 72 (F 235) [.t 69,.t 70,.t 71]] <|
 .cond (.t 72)
 (.ret)
 (.skip))
 (.skip)) <|
 .seq (.seq (.ops true [⟨none,[.m 73 1,.bi 74 .gtr 73 0,.m 75 74]⟩,
 ⟨some (75,true),[.m 76 0,.m 77 1,.bi 78 .sub 77 1,.ia 79 1 76 78,.l 80 79,.m 81 0,.m 82 11,.ia 83 1 81 82,.l 84 83,.c 85 (F 236) [.t 80,.t 84],.un (some 86) .not (.t 85)]⟩,
 ⟨none,[.pf 87 75 86]⟩]) <|
 .cond (.t 87)
 (.n [.m 88 0,.m 89 1,.m 90 2,.m 91 11,.c 92 (F 237) [.t 88,.t 89,.t 90,.t 91],.m 13 92] <|
 .n [.m 93 13,.m 1 93] <|
 .exit 1)
 (.skip)) <|
 .n [.m 95 0,.m 96 1,.m 97 2,.m 98 11,.c 99 (F 238) [.t 95,.t 96,.t 97,.t 98],.m 94 99,.x 100 0 94,.x 101 1 94,.m 14 100,.m 15 101] <|
 .n [.m 102 15,.m 9 102] <|
 .n [.m 103 14,.m 104 1,.b 105 .sub 103 104,.m 106 2,.m 107 14,.b 108 .sub 106 107,.m 16 105,.m 17 108] <|
 .n [.m 109 10,.bi 110 .quo 109 8,.m 18 110] <|
 .n [.m 111 16,.m 112 17,.b 113 .lss 111 112] <|
 .cond (.t 113)
 (.n [.m 114 16,.m 115 18,.b 116 .geq 114 115,.m 8 116] <|
 .n [.m 117 0,.m 118 1,.m 119 14,.m 120 3,.e 121 134 (F 228) [.t 117,.t 118,.t 119,.t 120]] <|
 .o [.m 122 14,.bi 123 .add 122 1,.m 1 123])
 (.n [.m 124 17,.m 125 18,.b 126 .geq 124 125,.m 8 126] <|
 .n [.m 127 0,.m 128 14,.bi 129 .add 128 1,.m 130 2,.m 131 3,.e 132 134 (F 228) [.t 127,.t 129,.t 130,.t 131]] <|
 .o [.m 133 14,.m 2 133])
abbrev aWy (P:Program) (F T:Nat→Nat):Prop:=Fn P (F 228) 134 [] (c228 F T)
end Go.Ab
