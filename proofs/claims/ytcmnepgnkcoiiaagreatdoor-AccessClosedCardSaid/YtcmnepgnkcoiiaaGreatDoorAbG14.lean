/- Lowered code of the functions, by program. No condition. -/
import Derived.Test.YtcmnepgnkcoiiaaGreatDoorAbG13
set_option linter.unusedVariables false
namespace Go.Ab
def c206 (F T:Nat→Nat):C :=
 .n [.box 3 (T 16) (.t 0),.mov (some 6) (.k (.bool false))] <|
 .seq (.seq (.ops false [⟨none,[.load (some 10) false 3 true (.t 3),.c 11 (F 177) [.t 10],.m 12 11]⟩,
 ⟨some (12,false),[.m 13 1,.ls 14 13,.bi 15 .gtr 14 100]⟩,
 ⟨none,[.pt 16 12 15]⟩]) <|
 .cond (.t 16)
 (.n [.c 17 (F 176) [],.m 6 17] <|
 .ret)
 (.skip)) <|
 .n [.m 18 2,.e 19 43 (F 39) [.t 18],.m 7 19] <|
 .n [.m 20 7,.e 21 43 (F 207) [.t 20],.m 22 7,.e 23 43 (F 208) [.t 22],.alloc 8 (T 16) [.nils,.nils,.nils],.store 3 (.t 8) (.t 21),.m 9 23] <|
 .seq (.ops true [⟨none,[.load (some 24) false 3 true (.t 3),.m 25 1,.c 26 (F 180) [.t 24,.t 25],.load (some 27) false 3 true (.t 3),.m 28 1,.c 29 (F 209) [.t 27,.t 28],.c 30 (F 210) [.t 26,.t 29],.m 31 30]⟩,
 ⟨some (31,true),[.load (some 32) false 3 true (.t 8),.m 33 9,.c 34 (F 180) [.t 32,.t 33],.load (some 35) false 3 true (.t 8),.m 36 9,.c 37 (F 209) [.t 35,.t 36],.c 38 (F 210) [.t 34,.t 37]]⟩,
 ⟨none,[.pf 39 31 38,.m 40 39]⟩,
 ⟨some (40,true),[.c 41 (F 176) []]⟩,
 ⟨none,[.pf 42 40 41,.m 6 42]⟩]) <|
 .ret
abbrev Is206 (P:Program) (F T:Nat→Nat):Prop:=Fn P (F 206) 43 [(6,none)] (c206 F T)
def c211 (F T:Nat→Nat):C :=
 .n [.mov (some 2) (.k (.bool false))] <|
 .n [.m 11 0,.e 12 90 (F 39) [.t 11],.m 3 12] <|
 .n [.m 13 3,.e 14 90 (F 207) [.t 13],.m 15 3,.e 16 90 (F 208) [.t 15],.alloc 4 (T 16) [.nils,.nils,.nils],.store 3 (.t 4) (.t 14),.m 5 16] <|
 .n [.load (some 17) false 3 true (.t 4),.m 18 5,.c 19 (F 180) [.t 17,.t 18],.m 6 19] <|
 .seq (.n [.mov (some 7) (.i 0)] <|
 .block 0 <|
 .loop <|
 .seq (.n [.m 20 7,.f 21 0 4,.l 22 21,.ll 23 22,.b 24 .lss 20 23] <|
 .cond (.t 24)
 (.skip)
 (.exit 0)) <|
 .seq (.block 1 <|
 .n [.mov (some 8) (.k (.bool false))] <|
 .seq (.n [.mov (some 9) (.i 0)] <|
 .block 2 <|
 .loop <|
 .seq (.n [.m 27 9,.f 28 0 4,.l 29 28,.m 30 7,.ia 31 2 29 30,.f 32 1 31,.l 33 32,.ll 34 33,.b 35 .lss 27 34] <|
 .cond (.t 35)
 (.skip)
 (.exit 2)) <|
 .seq (.block 3 <|
 .n [.f 38 0 4,.l 39 38,.m 40 7,.ia 41 2 39 40,.f 42 1 41,.l 43 42,.m 44 9,.ia 45 1 43 44,.l 46 45,.m 10 46] <|
 .ops false [⟨none,[.m 47 8,.m 48 47]⟩,
 ⟨some (48,false),[.m 49 5,.bin (some 50) .neq (.t 49) (.s []),.m 51 50]⟩,
 ⟨some (51,true),[.m 52 10,.m 53 5,.b 54 .eql 52 53]⟩,
 ⟨some (48,false),[.pf 55 51 54]⟩,
 ⟨none,[.pt 56 48 55,.m 57 56]⟩,
 ⟨some (57,false),[.m 58 10,.idx (some 59) (.t 58) (.i 0),.bin (some 60) .eql (.t 59) (.k (.int .u8 64)),.m 61 60]⟩,
 ⟨some (61,true),[.m 62 6,.m 63 10,.slcS (some 64) (.t 63) (some (.i 1)) none,.c 65 (F 193) [.t 62,.t 64]]⟩,
 ⟨some (57,false),[.pf 66 61 65]⟩,
 ⟨none,[.pt 67 57 66,.m 8 67]⟩]) <|
 .o [.m 36 9,.bi 37 .add 36 1,.m 9 37]) <|
 .n [.m 68 8,.m 69 6,.f 70 0 4,.l 71 70,.m 72 7,.ia 73 2 71 72,.f 74 0 73,.l 75 74,.c 76 (F 193) [.t 69,.t 75],.eqB (some 77) true (.t 68) (.t 76)] <|
 .cond (.t 77)
 (.n [.mov (some 2) (.k (.bool false))] <|
 .ret)
 (.skip)) <|
 .o [.m 25 7,.bi 26 .add 25 1,.m 7 26]) <|
 .seq (.ops false [⟨none,[.m 78 6,.c 79 (F 193) [.t 78,.s [97,108,108]],.m 80 79]⟩,
 ⟨some (80,true),[.m 81 6,.c 82 (F 193) [.t 81,.s [117,115,101,114,115]],.m 83 5,.bin (some 84) .neq (.t 83) (.s []),.eqB (some 85) false (.t 82) (.t 84)]⟩,
 ⟨none,[.pf 86 80 85,.m 87 86]⟩,
 ⟨some (87,true),[.c 88 (F 176) []]⟩,
 ⟨none,[.pf 89 87 88,.m 2 89]⟩]) <|
 .ret
abbrev Is211 (P:Program) (F T:Nat→Nat):Prop:=Fn P (F 211) 90 [(2,none)] (c211 F T)
def c223 (F T:Nat→Nat):C :=
 .n [.mov (some 4) (.k (.bool false))] <|
 .n [.m 5 0,.m 6 1,.e 7 9 (F 224) [.t 5,.t 6],.bi 8 .geq 7 0,.m 4 8] <|
 .ret
abbrev Is223 (P:Program) (F T:Nat→Nat):Prop:=Fn P (F 223) 9 [(4,none)] (c223 F T)
def c224 (F T:Nat→Nat):C :=
 .n [.mov (some 4) (.i 0)] <|
 .seq (.n [.m 6 0,.ll 7 6,.mov (some 8) (.i 0)] <|
 .block 0 <|
 .loop <|
 .n [.b 9 .lss 8 7] <|
 .seq (.cond (.t 9)
 (.skip)
 (.exit 0)) <|
 .seq (.block 1 <|
 .n [.m 10 8,.m 5 10] <|
 .n [.m 11 1,.m 12 0,.m 13 5,.ia 14 1 12 13,.l 15 14,.vcall (some 16) 19 (.t 11) [.t 15]] <|
 .cond (.t 16)
 (.n [.m 17 5,.m 4 17] <|
 .ret)
 (.skip)) <|
 .o [.bi 18 .add 8 1,.m 8 18]) <|
 .n [.mov (some 4) (.k (.int .i64 (-1)))] <|
 .ret
abbrev Is224 (P:Program) (F T:Nat→Nat):Prop:=Fn P (F 224) 19 [(4,none)] (c224 F T)
def c225 (F T:Nat→Nat):C :=
 .n [.mov (some 5) (.k (.bool false))] <|
 .seq (.ops true [⟨none,[.l 6 1,.m 7 6]⟩,
 ⟨some (7,true),[.m 8 0,.l 9 2,.b 10 .eql 8 9]⟩,
 ⟨none,[.pf 11 7 10,.m 12 11]⟩,
 ⟨some (12,false),[.m 13 0,.ls 14 13,.bi 15 .gtr 14 0,.m 16 15]⟩,
 ⟨some (16,true),[.m 17 0,.idx (some 18) (.t 17) (.i 0),.bin (some 19) .eql (.t 18) (.k (.int .u8 64))]⟩,
 ⟨some (12,false),[.pf 20 16 19,.m 21 20]⟩,
 ⟨some (21,true),[.l 22 3,.m 23 0,.slcS (some 24) (.t 23) (some (.i 1)) none,.call (some 25) false (F 220) [.t 22,.t 24]]⟩,
 ⟨some (12,false),[.pf 26 21 25]⟩,
 ⟨none,[.pt 27 12 26,.m 5 27]⟩]) <|
 .ret
abbrev Is225 (P:Program) (F T:Nat→Nat):Prop:=Fn P (F 225) 28 [(5,none)] (c225 F T)
def c210 (F T:Nat→Nat):C :=
 .n [.mov (some 4) (.k (.bool false))] <|
 .seq (.n [.m 6 0,.ll 7 6,.m 8 1,.ll 9 8,.b 10 .neq 7 9] <|
 .cond (.t 10)
 (.n [.mov (some 4) (.k (.bool false))] <|
 .ret)
 (.skip)) <|
 .seq (.n [.mov (some 5) (.i 0)] <|
 .block 0 <|
 .loop <|
 .seq (.n [.m 11 5,.m 12 0,.ll 13 12,.b 14 .lss 11 13] <|
 .cond (.t 14)
 (.skip)
 (.exit 0)) <|
 .seq (.block 1 <|
 .seq (.p [.m 17 0,.m 18 5,.ia 19 1 17 18,.l 20 19,.m 21 1,.m 22 5,.ia 23 1 21 22,.l 24 23,.b 25 .neq 20 24]) <|
 .cond (.t 25)
 (.n [.mov (some 4) (.k (.bool false))] <|
 .ret)
 (.skip)) <|
 .o [.m 15 5,.bi 16 .add 15 1,.m 5 16]) <|
 .n [.mov (some 4) (.k (.bool true))] <|
 .ret
abbrev Is210 (P:Program) (F T:Nat→Nat):Prop:=Fn P (F 210) 26 [(4,none)] (c210 F T)
end Go.Ab
