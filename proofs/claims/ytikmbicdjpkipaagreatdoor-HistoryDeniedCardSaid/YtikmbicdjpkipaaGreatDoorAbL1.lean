/- Several texts of one kind, merged. No condition. -/
import Derived.Test.YtikmbicdjpkipaaGreatDoorAbJ1
import Derived.Test.YtikmbicdjpkipaaGreatDoorAbK5
import Derived.Test.YtikmbicdjpkipaaGreatDoorAbJ4
set_option linter.unusedSimpArgs false
set_option linter.unusedVariables false
namespace Go.Ab
def c332 (F T:Nat→Nat):C :=
 .n [.mov (some 2) (.s [])] <|
 .n [.build (some 3) [(.str []),(.str []),(.str []),(.str []),(.str [])] [(0,1,(.s [97,110,110])),(1,1,(.s [98,111,98])),(2,1,(.s [])),(3,1,(.s [99,121])),(4,1,(.s [97,110,110]))],.m 4 0,.e 5 7 (F 349) [.t 4,.i 5],.idxA (some 6) 5 1 false (.t 3) (.t 5),.m 2 6] <|
 .ret
abbrev aWw (P:Program) (F T:Nat→Nat):Prop:=Fn P (F 332) 7 [(2,none)] (c332 F T)
def c333 (F T:Nat→Nat):C :=
 .n [.alloc 2 (T 17) [(.int .i64 0),(.str [])]] <|
 .n [.c 3 (F 345) [],.m 4 0,.e 5 8 (F 349) [.t 4,.i 8],.ia 6 2 3 5,.load (some 7) false 2 true (.t 6),.store 2 (.t 2) (.t 7)] <|
 .ret
abbrev aYh (P:Program) (F T:Nat→Nat):Prop:=Fn P (F 333) 8 [(2,(some (2,true)))] (c333 F T)
def c345 (F T:Nat→Nat):C :=
 .n [.mov (some 0) (.k .nils)] <|
 .n [.build (some 1) [(.int .i64 0),(.str [])] [(1,1,(.s [65]))],.build (some 2) [(.int .i64 0),(.str [])] [(1,1,(.s [66]))],.build (some 3) [(.int .i64 0),(.str [])] [(1,1,(.s [65,47,67]))],.build (some 4) [(.int .i64 0),(.str [])] [(0,1,(.i 3)),(1,1,(.s [84]))],.build (some 5) [(.int .i64 0),(.str [])] [(0,1,(.i 4)),(1,1,(.s [88]))],.build (some 6) [(.int .i64 0),(.str [])] [(0,1,(.i 4)),(1,1,(.s [89]))],.build (some 7) [(.int .i64 0),(.str [])] [(0,1,(.i 2)),(1,1,(.s [65,110,110]))],.build (some 8) [(.int .i64 0),(.str [])] [(1,1,(.s [68]))],.mkl (some 9) 2 [.t 1,.t 2,.t 3,.t 4,.t 5,.t 6,.t 7,.t 8],.m 0 9] <|
 .ret
abbrev aW3 (P:Program) (F T:Nat→Nat):Prop:=Fn P (F 345) 10 [(0,none)] (c345 F T)
def c369 (F T:Nat→Nat):C :=
 .n [.mov (some 2) (.s [])] <|
 .n [.mov (some 3) (.s [])] <|
 .seqc (.n [.m 5 0,.e 6 25 (F 349) [.t 5,.i 12],.bi 7 .eql 6 0] <|
 .cond (.t 7)
 (.o [.build (some 8) [(.str []),(.str []),(.str [])] [(0,1,(.s [66])),(1,1,(.s [65])),(2,1,(.s [84,101,109,112,108,97,116,101,58,84]))],.m 9 0,.e 10 25 (F 349) [.t 9,.i 3],.idxA (some 11) 3 1 false (.t 8) (.t 10),.bin (some 12) .add (.s [35,82,69,68,73,82,69,67,84,32,91,91]) (.t 11),.bin (some 13) .add (.t 12) (.s [93,93,32]),.m 3 13])
 (.skip)) <|
 .seq (.n [.m 14 0,.e 15 25 (F 349) [.t 14,.i 5],.m 4 15] <|
 .block 0 <|
 .loop <|
 .seq (.n [.m 16 4,.bi 17 .gtr 16 0] <|
 .cond (.t 17)
 (.skip)
 (.exit 0)) <|
 .seq (.block 1 <|
 .o [.m 20 3,.m 21 0,.e 22 25 (F 370) [.t 21],.b 23 .add 20 22,.m 3 23]) <|
 .o [.m 18 4,.bi 19 .sub 18 1,.m 4 19]) <|
 .n [.m 24 3,.m 2 24] <|
 .ret
abbrev aVs (P:Program) (F T:Nat→Nat):Prop:=Fn P (F 369) 25 [(2,none)] (c369 F T)
def c370 (F T:Nat→Nat):C :=
 .n [.mov (some 2) (.s [])] <|
 .n [.build (some 3) [(.str []),(.str []),(.str []),(.str []),(.str []),(.str []),(.str []),(.str []),(.str []),(.str []),(.str []),(.str []),(.str []),(.str []),(.str []),(.str []),(.str []),(.str []),(.str []),(.str []),(.str []),(.str []),(.str []),(.str []),(.str []),(.str []),(.str []),(.str [])] [(0,1,(.s [112,108,97,105,110,32,119,111,114,100,115,32])),(1,1,(.s [91,91,65,93,93,32])),(2,1,(.s [91,91,66,124,98,101,101,93,93,32])),(3,1,(.s [91,91,67,97,116,101,103,111,114,121,58,88,93,93])),(4,1,(.s [91,91,67,97,116,101,103,111,114,121,58,88,124,107,93,93])),(5,1,(.s [91,91,67,97,116,101,103,111,114,121,58,89,93,93])),(6,1,(.s [123,123,116,124,49,125,125])),(7,1,(.s [123,123,58,66,125,125,32])),(8,1,(.s [123,123,58,65,47,67,125,125])),(9,1,(.s [123,123,35,105,102,101,120,105,115,116,58,66,124,121,101,115,124,110,111,125,125,32])),(10,1,(.s [123,123,35,105,102,101,120,105,115,116,58,68,124,121,101,115,124,110,111,125,125])),(11,1,(.s [123,123,35,109,101,109,98,101,114,115,58,88,125,125,32])),(12,1,(.s [123,123,35,100,97,116,101,58,89,45,109,45,100,125,125,32])),(13,1,(.s [123,123,35,100,97,116,101,58,72,58,105,125,125,32])),(14,1,(.s [123,123,35,114,105,103,104,116,58,101,100,105,116,124,65,124,101,124,110,125,125,32])),(15,1,(.s [123,123,35,114,101,118,105,115,105,111,110,58,65,125,125,32])),(16,1,(.s [10,61,61,32,83,32,61,61,10,98,111,100,121,10])),(17,1,(.s [10,61,61,32,82,32,61,61,10,114,101,115,116,10])),(18,1,(.s [60,110,111,105,110,99,108,117,100,101,62,123,123,116,125,125,60,47,110,111,105,110,99,108,117,100,101,62])),(19,1,(.s [60,105,110,99,108,117,100,101,111,110,108,121,62,91,91,68,93,93,60,47,105,110,99,108,117,100,101,111,110,108,121,62])),(20,1,(.s [123,123,123,49,124,100,125,125,125,32])),(21,1,(.s [10,42,32,105,116,101,109,10])),(22,1,(.s [115,101,99,114,101,116,32])),(23,1,(.s [91,91,84,101,109,112,108,97,116,101,58,84,93,93])),(24,1,(.s [123,123,58,67,97,116,101,103,111,114,121,58,89,125,125])),(25,1,(.s [119,111,114,100,115,32,91,91,68,93,93,32,119,111,114,100,115])),(26,1,(.s [39,39,120,39,39,32])),(27,1,(.s [123,123,35,109,101,109,98,101,114,115,58,89,125,125]))],.m 4 0,.e 5 7 (F 349) [.t 4,.i 28],.idxA (some 6) 28 1 false (.t 3) (.t 5),.m 2 6] <|
 .ret
abbrev aRj (P:Program) (F T:Nat→Nat):Prop:=Fn P (F 370) 7 [(2,none)] (c370 F T)
def c373 (F T:Nat→Nat):C :=
 .n [.alloc 4 (T 37) [(.int .i64 0),(.str []),(.str []),(.int .i64 0),(.str []),(.int .i64 0),(.str []),(.str []),(.int .i64 0),.nils]] <|
 .seqc (.p [.build (some 6) [(.int .i64 0),(.int .i64 0),(.int .i64 0),(.int .i64 0),(.int .i64 0),(.int .i64 0),(.int .i64 0),(.int .i64 0),(.int .i64 0),(.int .i64 0),(.int .i64 0),(.int .i64 0),(.int .i64 0),(.int .i64 0)] [(0,1,(.i 1)),(1,1,(.i 1)),(2,1,(.i 1)),(3,1,(.i 1)),(4,1,(.i 1)),(5,1,(.i 2)),(6,1,(.i 3)),(7,1,(.i 4)),(8,1,(.i 5)),(9,1,(.i 6)),(10,1,(.i 7)),(11,1,(.i 8)),(12,1,(.i 9)),(13,1,(.i 10))],.m 7 0,.e 8 68 (F 349) [.t 7,.i 14],.idxA (some 9) 14 1 false (.t 6) (.t 8),.m 10 0,.e 11 68 (F 332) [.t 10],.m 12 0,.e 13 68 (F 333) [.t 12],.build (some 14) [(.int .i64 0),(.str []),(.str []),(.int .i64 0),(.str []),(.int .i64 0),(.str []),(.str []),(.int .i64 0),.nils] [(0,1,(.t 9)),(1,1,(.t 11)),(3,2,(.t 13))],.alloc 5 (T 37) [(.int .i64 0),(.str []),(.str []),(.int .i64 0),(.str []),(.int .i64 0),(.str []),(.str []),(.int .i64 0),.nils],.store 10 (.t 5) (.t 14)]) <|
 .seqc (.n [.f 15 0 5,.l 16 15] <|
 .block 0 <|
 .seq (.n [.bi 18 .eql 16 1,.m 17 18] <|
 .cond (.t 17)
 (.skip)
 (.o [.bi 19 .eql 16 9,.m 17 19])) <|
 .cond (.t 17)
 (.n [.m 20 0,.e 21 68 (F 376) [.t 20],.m 22 0,.e 23 68 (F 369) [.t 22],.f 24 2 5,.store 1 (.t 24) (.t 21),.f 25 7 5,.store 1 (.t 25) (.t 23)] <|
 .n [.f 26 0 5,.l 27 26,.bi 28 .eql 27 9] <|
 .cond (.t 28)
 (.o [.m 29 0,.e 30 68 (F 349) [.t 29,.i 3],.f 31 8 5,.store 1 (.t 31) (.t 30)])
 (.skip))
 (.n [.bi 33 .eql 16 4,.m 32 33] <|
 .cond (.t 32)
 (.o [.m 34 0,.e 35 68 (F 333) [.t 34],.m 36 0,.e 37 68 (F 349) [.t 36,.i 2],.f 38 5 5,.store 2 (.t 38) (.t 35),.f 39 8 5,.store 1 (.t 39) (.t 37)])
 (.n [.bi 41 .eql 16 5,.m 40 41] <|
 .cond (.t 40)
 (.o [.m 42 0,.m 43 1,.e 44 68 (F 377) [.t 42,.t 43],.f 45 9 5,.store 1 (.t 45) (.t 44)])
 (.n [.bi 47 .eql 16 6,.m 46 47] <|
 .cond (.t 46)
 (.o [.m 48 0,.e 49 68 (F 349) [.t 48,.i 2000],.bin (some 50) .add (.i 1) (.t 49),.build (some 51) [(.int .i64 0),(.str []),(.str []),(.int .i64 0),(.str []),(.int .i64 0),(.str []),(.str []),(.int .i64 0),.nils] [(0,1,(.i 6)),(8,1,(.t 50))],.store 10 (.t 5) (.t 51)])
 (.seq (.n [.bi 53 .eql 16 7,.m 52 53] <|
 .cond (.t 52)
 (.skip)
 (.o [.bi 54 .eql 16 8,.m 52 54])) <|
 .cond (.t 52)
 (.n [.f 55 1 5,.l 56 55,.bin (some 57) .eql (.t 56) (.s [])] <|
 .cond (.t 57)
 (.o [.f 58 1 5,.store 1 (.t 58) (.s [98,111,98])])
 (.skip))
 (.n [.bi 60 .eql 16 10,.m 59 60] <|
 .cond (.t 59)
 (.o [.build (some 61) [(.int .i64 0),(.str [])] [],.m 62 0,.e 63 68 (F 349) [.t 62,.i 4],.bin (some 64) .add (.i 1) (.t 63),.f 65 3 5,.store 2 (.t 65) (.t 61),.f 66 8 5,.store 1 (.t 66) (.t 64)])
 (.skip))))))) <|
 .n [.load (some 67) false 10 true (.t 5),.store 10 (.t 4) (.t 67)] <|
 .ret
abbrev bCu (P:Program) (F T:Nat→Nat):Prop:=Fn P (F 373) 68 [(4,(some (10,true)))] (c373 F T)
def c376 (F T:Nat→Nat):C :=
 .n [.mov (some 2) (.s [])] <|
 .n [.build (some 3) [(.str []),(.str []),(.str [])] [(0,1,(.s [])),(1,1,(.s [110,111,116,101])),(2,1,(.s [97,95,98,32,126]))],.m 4 0,.e 5 7 (F 349) [.t 4,.i 3],.idxA (some 6) 3 1 false (.t 3) (.t 5),.m 2 6] <|
 .ret
abbrev aTe (P:Program) (F T:Nat→Nat):Prop:=Fn P (F 376) 7 [(2,none)] (c376 F T)
def c377 (F T:Nat→Nat):C :=
 .n [.mov (some 4) (.k .nils)] <|
 .seq (.gha (.own 5 (T 36) 6) <| .o [.mov (some 5) (.k .nils)]) <|
 .n [.mov (some 6) (.i 0)] <|
 .seq (.n [.m 8 0,.e 9 36 (F 349) [.t 8,.i 3],.bin (some 10) .add (.i 1) (.t 9),.m 7 10] <|
 .block 0 <|
 .loop <|
 .seq (.n [.m 11 7,.bi 12 .gtr 11 0] <|
 .cond (.t 12)
 (.skip)
 (.exit 0)) <|
 .seq (.block 1 <|
 .n [.m 15 5,.m 16 5,.ll 17 16,.bi 18 .add 17 1,.m 19 0,.e 20 36 (F 332) [.t 19],.m 21 0,.e 22 36 (F 376) [.t 21],.m 23 0,.e 24 36 (F 369) [.t 23],.m 25 6,.build (some 26) [(.int .i64 0),(.str []),(.str []),(.str []),(.int .i64 0),(.int .i64 0)] [(0,1,(.t 18)),(1,1,(.t 20)),(2,1,(.t 22)),(3,1,(.t 24)),(4,1,(.t 25))],.mkl (some 27) 6 [.t 26],.app 28 (T 36) 6 (.t 15) (.t 27),.m 5 28] <|
 .o [.m 29 1,.m 30 6,.m 31 0,.e 32 36 (F 349) [.t 31,.i 3],.b 33 .add 30 32,.mx (some 34) false (.t 29) (.t 33),.m 6 34]) <|
 .o [.m 13 7,.bi 14 .sub 13 1,.m 7 14]) <|
 .seq (.gh (.frz 5) <| .o [.m 35 5,.m 4 35]) <|
 .ret
abbrev aY0 (P:Program) (F T:Nat→Nat):Prop:=Fn P (F 377) 36 [(4,none)] (c377 F T)
def c372 (F T:Nat→Nat):C :=
 .n [.mov (some 4) (.k .nils)] <|
 .seq (.gha (.own 5 (T 37) 10) <| .o [.mov (some 5) (.k .nils)]) <|
 .seq (.n [.m 7 0,.e 8 22 (F 349) [.t 7,.i 6],.bi 9 .quo 8 3,.bin (some 10) .add (.i 1) (.t 9),.m 6 10] <|
 .block 0 <|
 .loop <|
 .seq (.n [.m 11 6,.bi 12 .gtr 11 0] <|
 .cond (.t 12)
 (.skip)
 (.exit 0)) <|
 .seq (.block 1 <|
 .o [.m 15 5,.m 16 0,.m 17 1,.e 18 22 (F 373) [.t 16,.t 17],.mkl (some 19) 10 [.t 18],.app 20 (T 37) 10 (.t 15) (.t 19),.m 5 20]) <|
 .o [.m 13 6,.bi 14 .sub 13 1,.m 6 14]) <|
 .seq (.gh (.frz 5) <| .o [.m 21 5,.m 4 21]) <|
 .ret
abbrev bDk (P:Program) (F T:Nat→Nat):Prop:=Fn P (F 372) 22 [(4,none)] (c372 F T)
def c291 (F T:Nat→Nat):C :=
 .n [.alloc 2 (T 34) [(.int .i64 0),(.int .i64 0),.nils,.nils,.nils,(.int .i64 0),.nils,.nils]] <|
 .n [.build (some 6) [(.int .i64 0),(.int .i64 0),.nils,.nils,.nils,(.int .i64 0),.nils,.nils] [],.c 7 (F 292) [],.m 8 0,.build (some 9) [(.int .i64 0),(.str []),(.str []),(.int .i64 0),(.str []),(.int .i64 0),(.str []),(.str []),(.int .i64 0),.nils] [(0,1,(.i 1)),(3,2,(.t 7)),(7,1,(.t 8))],.mkl (some 10) 10 [.t 9],.c 11 (F 293) [.t 6,.t 10],.m 5 11,.x 12 0 5,.x 13 1 5,.alloc 3 (T 34) [(.int .i64 0),(.int .i64 0),.nils,.nils,.nils,(.int .i64 0),.nils,.nils],.store 8 (.t 3) (.t 12),.m 4 13] <|
 .n [.load (some 14) false 8 true (.t 3),.store 8 (.t 2) (.t 14)] <|
 .ret
abbrev bGb (P:Program) (F T:Nat→Nat):Prop:=Fn P (F 291) 15 [(2,(some (8,true)))] (c291 F T)
def c292 (F T:Nat→Nat):C :=
 .n [.alloc 0 (T 17) [(.int .i64 0),(.str [])]] <|
 .n [.build (some 1) [(.int .i64 0),(.str [])] [(0,1,(.i 5)),(1,1,(.s [80,111,108,105,99,121]))],.store 2 (.t 0) (.t 1)] <|
 .ret
abbrev bCk (P:Program) (F T:Nat→Nat):Prop:=Fn P (F 292) 2 [(0,(some (2,true)))] (c292 F T)
def c367 (F T:Nat→Nat):C :=
 .n [.mov (some 2) (.s [])] <|
 .n [.build (some 3) [(.str []),(.str []),(.str []),(.str []),(.str []),(.str []),(.str []),(.str [])] [(0,1,(.s [97,108,108,111,119,32,114,101,97,100,32,97,108,108,32,60,97,108,108,62,10,97,108,108,111,119,32,101,100,105,116,32,97,108,108,32,60,97,108,108,62,10,97,108,108,111,119,32,109,111,118,101,32,97,108,108,32,60,97,108,108,62,10,97,108,108,111,119,32,100,101,108,101,116,101,32,97,108,108,32,60,97,108,108,62,10,97,108,108,111,119,32,114,101,118,105,101,119,32,97,108,108,32,60,97,108,108,62,10])),(1,1,(.s [97,108,108,111,119,32,114,101,97,100,32,97,108,108,32,60,97,108,108,62,10,97,108,108,111,119,32,101,100,105,116,32,97,108,108,32,60,97,108,108,62,10,97,108,108,111,119,32,109,111,118,101,32,97,108,108,32,60,97,108,108,62,10,97,108,108,111,119,32,100,101,108,101,116,101,32,97,108,108,32,60,97,108,108,62,10,97,108,108,111,119,32,114,101,118,105,101,119,32,97,108,108,32,60,97,108,108,62,10,103,114,111,117,112,32,115,116,97,102,102,32,97,110,110,10,100,101,110,121,32,114,101,97,100,32,97,108,108,32,65,10,97,108,108,111,119,32,114,101,97,100,32,115,116,97,102,102,32,65,47,67,10])),(2,1,(.s [97,108,108,111,119,32,114,101,97,100,32,97,108,108,32,60,97,108,108,62,10,97,108,108,111,119,32,101,100,105,116,32,97,108,108,32,60,97,108,108,62,10,97,108,108,111,119,32,109,111,118,101,32,97,108,108,32,60,97,108,108,62,10,97,108,108,111,119,32,100,101,108,101,116,101,32,97,108,108,32,60,97,108,108,62,10,97,108,108,111,119,32,114,101,118,105,101,119,32,97,108,108,32,60,97,108,108,62,10,103,114,111,117,112,32,115,116,97,102,102,32,97,110,110,10,103,117,97,114,100,32,115,116,97,102,102,32,65,32,124,32,83,10,115,116,114,105,99,116,32,115,116,97,102,102,32,84,101,109,112,108,97,116,101,58,84,10,103,117,97,114,100,32,115,116,97,102,102,32,66,10])),(3,1,(.s [103,114,111,117,112,32,115,116,97,102,102,32,97,110,110,32,64,109,111,114,101,10,103,114,111,117,112,32,109,111,114,101,32,98,111,98,10,97,108,108,111,119,32,114,101,97,100,32,97,108,108,32,60,77,97,105,110,62,10,97,108,108,111,119,32,114,101,97,100,32,97,108,108,32,60,84,101,109,112,108,97,116,101,62,10,97,108,108,111,119,32,114,101,97,100,32,97,108,108,32,60,67,97,116,101,103,111,114,121,62,10,97,108,108,111,119,32,101,100,105,116,32,117,115,101,114,115,32,60,77,97,105,110,62,10,97,108,108,111,119,32,101,100,105,116,32,115,116,97,102,102,32,60,67,97,116,101,103,111,114,121,62,10,97,108,108,111,119,32,114,101,118,105,101,119,32,115,116,97,102,102,32,60,97,108,108,62,10,97,108,108,111,119,32,109,111,118,101,32,115,116,97,102,102,32,60,97,108,108,62,10,97,108,108,111,119,32,100,101,108,101,116,101,32,115,116,97,102,102,32,60,97,108,108,62,10,97,108,108,111,119,32,114,101,97,100,32,115,116,97,102,102,32,60,97,108,108,62,10,97,108,108,111,119,32,101,100,105,116,32,115,116,97,102,102,32,60,97,108,108,62,10])),(4,1,(.s [97,108,108,111,119,32,114,101,97,100,32,97,108,108,32,60,97,108,108,62,10,97,108,108,111,119,32,101,100,105,116,32,97,108,108,32,60,97,108,108,62,10,97,108,108,111,119,32,109,111,118,101,32,97,108,108,32,60,97,108,108,62,10,97,108,108,111,119,32,100,101,108,101,116,101,32,97,108,108,32,60,97,108,108,62,10,97,108,108,111,119,32,114,101,118,105,101,119,32,97,108,108,32,60,97,108,108,62,10,100,101,110,121,32,114,101,97,100,32,97,108,108,32,66,10,100,101,110,121,32,114,101,97,100,32,97,108,108,32,67,97,116,101,103,111,114,121,58,89,10])),(5,1,(.s [97,108,108,111,119,32,114,101,97,100,32,97,108,108,32,60,97,108,108,62,10,97,108,108,111,119,32,101,100,105,116,32,97,108,108,32,60,97,108,108,62,10,97,108,108,111,119,32,109,111,118,101,32,97,108,108,32,60,97,108,108,62,10,97,108,108,111,119,32,100,101,108,101,116,101,32,97,108,108,32,60,97,108,108,62,10,97,108,108,111,119,32,114,101,118,105,101,119,32,97,108,108,32,60,97,108,108,62,10,100,101,110,121,32,101,100,105,116,32,97,108,108,32,66,10,100,101,110,121,32,114,101,97,100,32,117,115,101,114,115,32,68,10])),(6,1,(.s [97,108,108,111,119,32,114,101,97,100,32,97,108,108,32,60,97,108,108,62,10,97,108,108,111,119,32,101,100,105,116,32,97,108,108,32,60,97,108,108,62,10,97,108,108,111,119,32,109,111,118,101,32,97,108,108,32,60,97,108,108,62,10,97,108,108,111,119,32,100,101,108,101,116,101,32,97,108,108,32,60,97,108,108,62,10,97,108,108,111,119,32,114,101,118,105,101,119,32,97,108,108,32,60,97,108,108,62,10])),(7,1,(.s [97,108,108,111,119,32,114,101,97,100,32,97,108,108,32,60,97,108,108,62,10,97,108,108,111,119,32,101,100,105,116,32,97,108,108,32,60,97,108,108,62,10,97,108,108,111,119,32,109,111,118,101,32,97,108,108,32,60,97,108,108,62,10,97,108,108,111,119,32,100,101,108,101,116,101,32,97,108,108,32,60,97,108,108,62,10,97,108,108,111,119,32,114,101,118,105,101,119,32,97,108,108,32,60,97,108,108,62,10,103,114,111,117,112,32,115,116,97,102,102,32,97,110,110,10,100,101,110,121,32,114,101,118,105,101,119,32,97,108,108,32,60,97,108,108,62,10,97,108,108,111,119,32,114,101,118,105,101,119,32,115,116,97,102,102,32,60,77,97,105,110,62,10,103,117,97,114,100,32,115,116,97,102,102,32,65,10,103,117,97,114,100,32,115,116,97,102,102,32,68,10]))],.m 4 0,.e 5 7 (F 349) [.t 4,.i 8],.idxA (some 6) 8 1 false (.t 3) (.t 5),.m 2 6] <|
 .ret
abbrev bCw (P:Program) (F T:Nat→Nat):Prop:=Fn P (F 367) 7 [(2,none)] (c367 F T)
def c330 (F T:Nat→Nat):C :=
 .n [.alloc 2 (T 34) [(.int .i64 0),(.int .i64 0),.nils,.nils,.nils,(.int .i64 0),.nils,.nils]] <|
 .n [.m 9 0,.e 10 45 (F 331) [.t 9],.m 3 10] <|
 .n [.m 11 3,.e 12 45 (F 367) [.t 11],.c 13 (F 291) [.t 12],.alloc 4 (T 34) [(.int .i64 0),(.int .i64 0),.nils,.nils,.nils,(.int .i64 0),.nils,.nils],.store 8 (.t 4) (.t 13)] <|
 .n [.m 14 3,.e 15 45 (F 349) [.t 14,.i 5],.bin (some 16) .add (.i 3) (.t 15),.m 5 16] <|
 .seq (.n [.mov (some 6) (.i 0)] <|
 .block 0 <|
 .loop <|
 .seq (.n [.m 17 6,.m 18 5,.b 19 .lss 17 18] <|
 .cond (.t 19)
 (.skip)
 (.exit 0)) <|
 .seq (.block 1 <|
 .seq (.p [.ldr (some 23) 8 true (.t 4) 4,.m 24 3,.ecr (some 25) 45 (F 332) [.t 24] 4,.c 26 (F 345) [],.m 27 6,.ia 28 2 26 27,.load (some 29) true 2 true (.t 28),.m 30 3,.ecr (some 31) 45 (F 369) [.t 30] 4,.build (some 32) [(.int .i64 0),(.str []),(.str []),(.int .i64 0),(.str []),(.int .i64 0),(.str []),(.str []),(.int .i64 0),.nils] [(0,1,(.i 1)),(1,1,(.t 25)),(3,2,(.t 29)),(7,1,(.t 31))],.mkl (some 33) 10 [.t 32],.c 34 (F 293) [.t 23,.t 33],.m 22 34,.x 35 0 22,.x 36 1 22,.alloc 7 (T 34) [(.int .i64 0),(.int .i64 0),.nils,.nils,.nils,(.int .i64 0),.nils,.nils],.store 8 (.t 7) (.t 35),.m 8 36]) <|
 .n [.m 37 8,.bi 38 .eql 37 0] <|
 .cond (.t 38)
 (.o [.load (some 39) false 8 true (.t 7),.store 8 (.t 4) (.t 39)])
 (.skip)) <|
 .o [.m 20 6,.bi 21 .add 20 1,.m 6 21]) <|
 .seq (.p [.ldr (some 40) 8 true (.t 4) 4,.m 41 3,.m 42 3,.ecr (some 43) 45 (F 349) [.t 42,.i 7] 4,.e 44 45 (F 378) [.t 40,.t 41,.t 43],.store 8 (.t 2) (.t 44)]) <|
 .ret
abbrev bCb (P:Program) (F T:Nat→Nat):Prop:=Fn P (F 330) 45 [(2,(some (8,true)))] (c330 F T)
def c378 (F T:Nat→Nat):C :=
 .n [.box 3 (T 34) (.t 0),.alloc 6 (T 34) [(.int .i64 0),(.int .i64 0),.nils,.nils,.nils,(.int .i64 0),.nils,.nils]] <|
 .seq (.block 0 <|
 .loop <|
 .seq (.n [.m 9 2,.bi 10 .gtr 9 0] <|
 .cond (.t 10)
 (.skip)
 (.exit 0)) <|
 .seq (.block 1 <|
 .seq (.p [.ldr (some 14) 8 true (.t 3) 3,.m 15 1,.f 16 1 3,.ldr (some 17) 1 false (.t 16) 3,.ecr (some 18) 26 (F 372) [.t 15,.t 17] 3,.c 19 (F 293) [.t 14,.t 18],.m 13 19,.x 20 0 13,.x 21 1 13,.alloc 7 (T 34) [(.int .i64 0),(.int .i64 0),.nils,.nils,.nils,(.int .i64 0),.nils,.nils],.store 8 (.t 7) (.t 20),.m 8 21]) <|
 .n [.m 22 8,.bi 23 .eql 22 0] <|
 .cond (.t 23)
 (.o [.load (some 24) false 8 true (.t 7),.store 8 (.t 3) (.t 24)])
 (.skip)) <|
 .o [.m 11 2,.bi 12 .sub 11 1,.m 2 12]) <|
 .n [.load (some 25) false 8 true (.t 3),.store 8 (.t 6) (.t 25)] <|
 .ret
abbrev bAn (P:Program) (F T:Nat→Nat):Prop:=Fn P (F 378) 26 [(6,(some (8,true)))] (c378 F T)
end Go.Ab
namespace Go.Ab
variable {P:Program} {F T:Nat→Nat}
abbrev c331 (F T:Nat→Nat):C:=bC4 (T 42)
abbrev bHo (P:Program) (F T:Nat→Nat):Prop:=Fn P (F 331) 46 [(2,none)] (c331 F T)
abbrev c349 (F T:Nat→Nat):C:=aX3 (F 368)
abbrev aIy (P:Program) (F T:Nat→Nat):Prop:=Fn P (F 349) 53 [(4,none)] (c349 F T)
abbrev c368 (F T:Nat→Nat):C:=cRnd
abbrev aI5 (P:Program) (F T:Nat→Nat):Prop:=Fn P (F 368) 15 [(4,none)] (c368 F T)
def Sr (t:Nat) (l:List Int) (L:Heap) (p:Nat):Prop:=∃ (a:Nat) (s:Int),a≤l.length∧L p=some (.box t [.lst 1 (ints l),.int .i64 a,.int .u64 s])
def Fr (L:Heap) (nx p:Nat) (L':Heap) (nx':Nat):Prop:=nx≤nx'∧∀ b,b<nx→b≠p→L' b=L b
def GenC (P:Program) (f t:Nat) (xs:List V) (R:V→Prop):Prop :=
 ∀ (l:List Int),l.length<2^63→∀ {L:Heap} {nx p:Nat},Sr t l L p→p<nx→ECall P f (.ptr p 0::xs) L nx fun v L' nx'=>R v∧Sr t l L' p∧Fr L nx p L' nx'
theorem Sr.put {t:Nat} {l:List Int} {L:Heap} {p i:Nat} {b:Option Blk} (h:Sr t l L p) (hi:p≠i):Sr t l (upd L i b) p:=by
 obtain ⟨a,s,h1,h2⟩:=h
 exact ⟨a,s,h1,by rw [aAd _ _ _ _ hi]; exact h2⟩
def numR (n:Int) (v:V):Prop:=∃ k:Int,v=.int .i64 k∧0≤k∧k<n
theorem aCp (hf:aIy P F T) (hr:aI5 P F T) (n:Int) (hn:1≤n) (hn2:n≤5000):GenC P (F 349) (T 42) [.int .i64 n] (numR n):=by
 intro l hl L nx p hs hp
 obtain ⟨a,s,ha,hL⟩:=hs
 have hw:IntKind.u64.wrap n=n:=by rw [IntKind.wrap_u64]; omega
 exact (bId hf hr l hl a ha s n hn hn2 hw hL hp).mono fun v L' nx' h=>⟨⟨_,h.1,bBb l a s hn⟩,⟨_,_,bHs ha,h.2.1⟩,h.2.2.1,h.2.2.2⟩
def strR (tbl:List (List UInt8)) (v:V):Prop:=∃ s,v=.str s∧s∈tbl
theorem aGg (tbl:List (List UInt8)) {k:Int} (h0:0≤k) (h1:k<tbl.length):strR tbl ((List.take 1 (List.drop (k.toNat*1) (tbl.map V.str))).headD V.junk):=by
 have h2:k.toNat<tbl.length:=by omega
 refine ⟨tbl[k.toNat],?_,List.getElem_mem h2⟩
 rw [Nat.mul_one,List.drop_eq_getElem_cons (by simpa using h2)]
 simp
def aMz:List (List UInt8):=[[97,110,110],[98,111,98],[],[99,121],[97,110,110]]
theorem aP5 (hf:aWw P F T) (hx:aIy P F T) (hr:aI5 P F T):GenC P (F 332) (T 42) [] (strR aMz):=by
 intro l hl L nx p hs hp
 refine aEb [] hf (by simp) ?_
 simp only [c332,push_cast,seval,-Nat.reducePow]
 refine aAh (aCp hx hr 5 (by decide) (by decide) l hl hs (by omega)) ?_
 rintro v L' nx' ⟨⟨k,rfl,k0,k1⟩,s1,f1⟩
 have hk:=aGg aMz k0 k1
 simp only [push_cast,seval,-Nat.reducePow,k0,k1]
 exact ⟨by have:=f1.1; omega,hk,s1,by have:=f1.1; omega,fun x hx hp=>f1.2 x (by omega) hp⟩
def bBw:List (List UInt8):=[[],[110,111,116,101],[97,95,98,32,126]]
theorem aVl (hf:aTe P F T) (hx:aIy P F T) (hr:aI5 P F T):GenC P (F 376) (T 42) [] (strR bBw):=by
 intro l hl L nx p hs hp
 refine aEb [] hf (by simp) ?_
 simp only [c376,push_cast,seval,-Nat.reducePow]
 refine aAh (aCp hx hr 3 (by decide) (by decide) l hl hs (by omega)) ?_
 rintro v L' nx' ⟨⟨k,rfl,k0,k1⟩,s1,f1⟩
 have hk:=aGg bBw k0 k1
 simp only [push_cast,seval,-Nat.reducePow,k0,k1]
 exact ⟨by have:=f1.1; omega,hk,s1,by have:=f1.1; omega,fun x hx hp=>f1.2 x (by omega) hp⟩
def aVa:List (List UInt8):=[[112,108,97,105,110,32,119,111,114,100,115,32],[91,91,65,93,93,32],[91,91,66,124,98,101,101,93,93,32],[91,91,67,97,116,101,103,111,114,121,58,88,93,93],[91,91,67,97,116,101,103,111,114,121,58,88,124,107,93,93],[91,91,67,97,116,101,103,111,114,121,58,89,93,93],[123,123,116,124,49,125,125],[123,123,58,66,125,125,32],[123,123,58,65,47,67,125,125],[123,123,35,105,102,101,120,105,115,116,58,66,124,121,101,115,124,110,111,125,125,32],[123,123,35,105,102,101,120,105,115,116,58,68,124,121,101,115,124,110,111,125,125],[123,123,35,109,101,109,98,101,114,115,58,88,125,125,32],[123,123,35,100,97,116,101,58,89,45,109,45,100,125,125,32],[123,123,35,100,97,116,101,58,72,58,105,125,125,32],[123,123,35,114,105,103,104,116,58,101,100,105,116,124,65,124,101,124,110,125,125,32],[123,123,35,114,101,118,105,115,105,111,110,58,65,125,125,32],[10,61,61,32,83,32,61,61,10,98,111,100,121,10],[10,61,61,32,82,32,61,61,10,114,101,115,116,10],[60,110,111,105,110,99,108,117,100,101,62,123,123,116,125,125,60,47,110,111,105,110,99,108,117,100,101,62],[60,105,110,99,108,117,100,101,111,110,108,121,62,91,91,68,93,93,60,47,105,110,99,108,117,100,101,111,110,108,121,62],[123,123,123,49,124,100,125,125,125,32],[10,42,32,105,116,101,109,10],[115,101,99,114,101,116,32],[91,91,84,101,109,112,108,97,116,101,58,84,93,93],[123,123,58,67,97,116,101,103,111,114,121,58,89,125,125],[119,111,114,100,115,32,91,91,68,93,93,32,119,111,114,100,115],[39,39,120,39,39,32],[123,123,35,109,101,109,98,101,114,115,58,89,125,125]]
theorem aRs:∀ s,s∈aVa→s.length≤60:=by decide
set_option maxRecDepth 10000 in
theorem bFs (hf:aRj P F T) (hx:aIy P F T) (hr:aI5 P F T):GenC P (F 370) (T 42) [] (strR aVa):=by
 intro l hl L nx p hs hp
 refine aEb [] hf (by simp) ?_
 simp only [c370,push_cast,seval,-Nat.reducePow]
 refine aAh (aCp hx hr 28 (by decide) (by decide) l hl hs (by omega)) ?_
 rintro v L' nx' ⟨⟨k,rfl,k0,k1⟩,s1,f1⟩
 have hk:=aGg aVa k0 k1
 simp only [push_cast,seval,-Nat.reducePow,k0,k1]
 exact ⟨by have:=f1.1; omega,hk,s1,by have:=f1.1; omega,fun x hx hp=>f1.2 x (by omega) hp⟩
def aB9:List Ttl:=[(0,[65]),(0,[66]),(0,[65,47,67]),(3,[84]),(4,[88]),(4,[89]),(2,[65,110,110]),(0,[68])]
theorem t345 (hf:aW3 P F T):PTr P (F 345) [] (.lst 2 (aB9.map tV)):=by
 refine ptrC [] hf (by simp) rfl ?_
 simp only [c345,push_cast,seval,-Nat.reducePow]
 exact aAc 3 _ rfl
def titR (v:V):Prop:=∃ t,v=tV t∧t∈aB9
theorem aKo (hf:aYh P F T) (h345:aW3 P F T) (hx:aIy P F T) (hr:aI5 P F T):GenC P (F 333) (T 42) [] titR:=by
 intro l hl L nx p hs hp
 refine aEb [] hf (by simp) ?_
 simp only [c333,push_cast,seval,-Nat.reducePow]
 refine aAa (t345 h345) (by simp only [push_cast,seval,-Nat.reducePow]) (by simp only [push_cast,seval,-Nat.reducePow,aB9,tV,tCs,List.map_cons,List.map_nil]) ?_
 simp only [push_cast,seval,-Nat.reducePow]
 have hs2:Sr (T 42) l (upd L (nx+2) (some (Blk.box (T 17) [V.int IntKind.i64 0,V.str []]))) p:=by
  obtain ⟨a,s,h1,h2⟩:=hs
  exact ⟨a,s,h1,by rw [aAd _ _ _ _ (by omega)]; exact h2⟩
 refine aAh (aCp hx hr 8 (by decide) (by decide) l hl hs2 (by omega)) ?_
 rintro v L' nx' ⟨⟨k,rfl,k0,k1⟩,s1,f1⟩
 have hk8:k.toNat<aB9.length:=by have:aB9.length=8:=rfl; omega
 have hg:(aB9.map tV).getD k.toNat .junk=.agg [.int .i64 aB9[k.toNat].1,.str aB9[k.toNat].2]:=by
  rw [List.getD_eq_getElem?_getD,List.getElem?_eq_getElem (by simpa using hk8)]; simp [tV,tCs]
 have hq:L' (nx+2)=some (.box (T 17) [V.int IntKind.i64 0,V.str []]):=by
  rw [f1.2 (nx+2) (by omega) (by omega),aAe]
 simp only [push_cast,seval,-Nat.reducePow,k0,k1,hg,hq]
 refine ⟨by simpa using hk8,by have:=f1.1; omega,⟨_,rfl,List.getElem_mem hk8⟩,s1.put (by omega),by have:=f1.1; omega,fun x hx hp=>?_⟩
 rw [aAd _ _ _ _ (by omega),f1.2 x (by omega) hp,aAd _ _ _ _ (by omega)]
def txtR (n:Nat) (v:V):Prop:=∃ s,v=.str s∧s.length≤n
theorem aPs (hf:aVs P F T) (h370:aRj P F T) (hx:aIy P F T) (hr:aI5 P F T):GenC P (F 369) (T 42) [] (txtR 300):=by
 intro l hl L nx p hs hp
 refine aEb [] hf (by simp) ?_
 simp only [c369,push_cast,seval,-Nat.reducePow]
 refine aBq (fun s=>∃ t:List UInt8,t.length≤40∧s.env 0=.ptr p 0∧s.env 3=.str t∧Sr (T 42) l s.L p∧Fr L nx p s.L s.nx) ?_ ?_
 ·simp only [push_cast,seval,-Nat.reducePow]
  refine aAh (aCp hx hr 12 (by decide) (by decide) l hl hs (by omega)) ?_
  rintro v L1 nx1 ⟨⟨k,rfl,k0,k1⟩,s1,f1⟩
  simp only [push_cast,seval,-Nat.reducePow]
  refine aA0 (fun h0=>?_) (fun h0=>?_)
  ·simp only [push_cast,seval,-Nat.reducePow]
   refine aAh (aCp hx hr 3 (by decide) (by decide) l hl s1 (by have:=f1.1; omega)) ?_
   rintro v L2 nx2 ⟨⟨k2,rfl,k20,k21⟩,s2,f2⟩
   have hk:=aGg [[66],[65],[84,101,109,112,108,97,116,101,58,84]] k20 k21
   simp only [List.map_cons,List.map_nil] at hk
   obtain ⟨w,hw,hwm⟩:=hk
   have hwl:w.length≤10:=(show ∀ w:List UInt8,w∈([[66],[65],[84,101,109,112,108,97,116,101,58,84]]:List (List UInt8))→w.length≤10 by decide) w hwm
   simp only [push_cast,seval,-Nat.reducePow,k20,k21,hw]
   exact ⟨by omega,by omega,_,by simp; omega,rfl,s2,by have:=f1.1; have:=f2.1; omega,fun x hx hp=>(f2.2 x (by have:=f1.1; omega) hp).trans (f1.2 x (by omega) hp)⟩
  ·simp only [push_cast,seval,-Nat.reducePow]
   exact ⟨[],by simp,rfl,s1,by have:=f1.1; omega,fun x hx hp=>f1.2 x (by omega) hp⟩
 ·rintro s2 ⟨t,t1,j0,j3,js,jf⟩
  simp only [push_cast,seval,-Nat.reducePow,j0,j3]
  refine aAh (aCp hx hr 5 (by decide) (by decide) l hl js (by have:=jf.1; omega)) ?_
  rintro v L1 nx1 ⟨⟨k,rfl,k0,k1⟩,s1,f1⟩
  refine aAm (fun m s3=>∃ (t:List UInt8) (n:Int),t.length+60*n≤300∧0≤n∧n≤4∧m=n.toNat∧s3.env 0=.ptr p 0∧s3.env 3=.str t∧s3.env 4=.int .i64 n∧Sr (T 42) l s3.L p∧Fr L nx p s3.L s3.nx) k.toNat ?_ fun m s3 hJ=>?_
  ·simp only [push_cast,seval,-Nat.reducePow]
   exact ⟨t,k,by omega,k0,by omega,rfl,j0,j3,rfl,s1,by have:=jf.1; have:=f1.1; omega,fun x hx hp=>(f1.2 x (by have:=jf.1; omega) hp).trans (jf.2 x hx hp)⟩
  ·obtain ⟨t,n,t1,n0,n4,rfl,j0,j3,j4,js,jf⟩:=hJ
   simp only [push_cast,seval,-Nat.reducePow,j0,j3,j4]
   refine aA0 (fun h0=>?_) (fun h0=>?_)
   ·simp only [push_cast,seval,-Nat.reducePow,j0,j3,j4]
    refine aAh (bFs h370 hx hr l hl js (by have:=jf.1; omega)) ?_
    rintro v L1 nx1 ⟨⟨w,rfl,hw⟩,s1,f1⟩
    have hwl:=aRs w hw
    simp only [push_cast,seval,-Nat.reducePow,j0,j3,j4]
    exact ⟨by omega,⟨by omega,by omega⟩,(n-1).toNat,by omega,t++w,n-1,by rw [List.length_append]; omega,by omega,by omega,rfl,rfl,rfl,s1,by have:=jf.1; have:=f1.1; omega,fun x hx hp=>(f1.2 x (by have:=jf.1; omega) hp).trans (jf.2 x hx hp)⟩
   ·simp only [push_cast,seval,-Nat.reducePow,j0,j3,j4]
    exact ⟨by have:=jf.1; omega,⟨t,rfl,by omega⟩,js,by have:=jf.1; omega,jf.2⟩
def aEk:List (List UInt8):=[[97,108,108,111,119,32,114,101,97,100,32,97,108,108,32,60,97,108,108,62,10,97,108,108,111,119,32,101,100,105,116,32,97,108,108,32,60,97,108,108,62,10,97,108,108,111,119,32,109,111,118,101,32,97,108,108,32,60,97,108,108,62,10,97,108,108,111,119,32,100,101,108,101,116,101,32,97,108,108,32,60,97,108,108,62,10,97,108,108,111,119,32,114,101,118,105,101,119,32,97,108,108,32,60,97,108,108,62,10],[97,108,108,111,119,32,114,101,97,100,32,97,108,108,32,60,97,108,108,62,10,97,108,108,111,119,32,101,100,105,116,32,97,108,108,32,60,97,108,108,62,10,97,108,108,111,119,32,109,111,118,101,32,97,108,108,32,60,97,108,108,62,10,97,108,108,111,119,32,100,101,108,101,116,101,32,97,108,108,32,60,97,108,108,62,10,97,108,108,111,119,32,114,101,118,105,101,119,32,97,108,108,32,60,97,108,108,62,10,103,114,111,117,112,32,115,116,97,102,102,32,97,110,110,10,100,101,110,121,32,114,101,97,100,32,97,108,108,32,65,10,97,108,108,111,119,32,114,101,97,100,32,115,116,97,102,102,32,65,47,67,10],[97,108,108,111,119,32,114,101,97,100,32,97,108,108,32,60,97,108,108,62,10,97,108,108,111,119,32,101,100,105,116,32,97,108,108,32,60,97,108,108,62,10,97,108,108,111,119,32,109,111,118,101,32,97,108,108,32,60,97,108,108,62,10,97,108,108,111,119,32,100,101,108,101,116,101,32,97,108,108,32,60,97,108,108,62,10,97,108,108,111,119,32,114,101,118,105,101,119,32,97,108,108,32,60,97,108,108,62,10,103,114,111,117,112,32,115,116,97,102,102,32,97,110,110,10,103,117,97,114,100,32,115,116,97,102,102,32,65,32,124,32,83,10,115,116,114,105,99,116,32,115,116,97,102,102,32,84,101,109,112,108,97,116,101,58,84,10,103,117,97,114,100,32,115,116,97,102,102,32,66,10],[103,114,111,117,112,32,115,116,97,102,102,32,97,110,110,32,64,109,111,114,101,10,103,114,111,117,112,32,109,111,114,101,32,98,111,98,10,97,108,108,111,119,32,114,101,97,100,32,97,108,108,32,60,77,97,105,110,62,10,97,108,108,111,119,32,114,101,97,100,32,97,108,108,32,60,84,101,109,112,108,97,116,101,62,10,97,108,108,111,119,32,114,101,97,100,32,97,108,108,32,60,67,97,116,101,103,111,114,121,62,10,97,108,108,111,119,32,101,100,105,116,32,117,115,101,114,115,32,60,77,97,105,110,62,10,97,108,108,111,119,32,101,100,105,116,32,115,116,97,102,102,32,60,67,97,116,101,103,111,114,121,62,10,97,108,108,111,119,32,114,101,118,105,101,119,32,115,116,97,102,102,32,60,97,108,108,62,10,97,108,108,111,119,32,109,111,118,101,32,115,116,97,102,102,32,60,97,108,108,62,10,97,108,108,111,119,32,100,101,108,101,116,101,32,115,116,97,102,102,32,60,97,108,108,62,10,97,108,108,111,119,32,114,101,97,100,32,115,116,97,102,102,32,60,97,108,108,62,10,97,108,108,111,119,32,101,100,105,116,32,115,116,97,102,102,32,60,97,108,108,62,10],[97,108,108,111,119,32,114,101,97,100,32,97,108,108,32,60,97,108,108,62,10,97,108,108,111,119,32,101,100,105,116,32,97,108,108,32,60,97,108,108,62,10,97,108,108,111,119,32,109,111,118,101,32,97,108,108,32,60,97,108,108,62,10,97,108,108,111,119,32,100,101,108,101,116,101,32,97,108,108,32,60,97,108,108,62,10,97,108,108,111,119,32,114,101,118,105,101,119,32,97,108,108,32,60,97,108,108,62,10,100,101,110,121,32,114,101,97,100,32,97,108,108,32,66,10,100,101,110,121,32,114,101,97,100,32,97,108,108,32,67,97,116,101,103,111,114,121,58,89,10],[97,108,108,111,119,32,114,101,97,100,32,97,108,108,32,60,97,108,108,62,10,97,108,108,111,119,32,101,100,105,116,32,97,108,108,32,60,97,108,108,62,10,97,108,108,111,119,32,109,111,118,101,32,97,108,108,32,60,97,108,108,62,10,97,108,108,111,119,32,100,101,108,101,116,101,32,97,108,108,32,60,97,108,108,62,10,97,108,108,111,119,32,114,101,118,105,101,119,32,97,108,108,32,60,97,108,108,62,10,100,101,110,121,32,101,100,105,116,32,97,108,108,32,66,10,100,101,110,121,32,114,101,97,100,32,117,115,101,114,115,32,68,10],[97,108,108,111,119,32,114,101,97,100,32,97,108,108,32,60,97,108,108,62,10,97,108,108,111,119,32,101,100,105,116,32,97,108,108,32,60,97,108,108,62,10,97,108,108,111,119,32,109,111,118,101,32,97,108,108,32,60,97,108,108,62,10,97,108,108,111,119,32,100,101,108,101,116,101,32,97,108,108,32,60,97,108,108,62,10,97,108,108,111,119,32,114,101,118,105,101,119,32,97,108,108,32,60,97,108,108,62,10],[97,108,108,111,119,32,114,101,97,100,32,97,108,108,32,60,97,108,108,62,10,97,108,108,111,119,32,101,100,105,116,32,97,108,108,32,60,97,108,108,62,10,97,108,108,111,119,32,109,111,118,101,32,97,108,108,32,60,97,108,108,62,10,97,108,108,111,119,32,100,101,108,101,116,101,32,97,108,108,32,60,97,108,108,62,10,97,108,108,111,119,32,114,101,118,105,101,119,32,97,108,108,32,60,97,108,108,62,10,103,114,111,117,112,32,115,116,97,102,102,32,97,110,110,10,100,101,110,121,32,114,101,118,105,101,119,32,97,108,108,32,60,97,108,108,62,10,97,108,108,111,119,32,114,101,118,105,101,119,32,115,116,97,102,102,32,60,77,97,105,110,62,10,103,117,97,114,100,32,115,116,97,102,102,32,65,10,103,117,97,114,100,32,115,116,97,102,102,32,68,10]]
set_option maxRecDepth 10000 in
theorem aYf (hf:bCw P F T) (hx:aIy P F T) (hr:aI5 P F T):GenC P (F 367) (T 42) [] (strR aEk):=by
 intro l hl L nx p hs hp
 refine aEb [] hf (by simp) ?_
 simp only [c367,push_cast,seval,-Nat.reducePow]
 refine aAh (aCp hx hr 8 (by decide) (by decide) l hl hs (by omega)) ?_
 rintro v L' nx' ⟨⟨k,rfl,k0,k1⟩,s1,f1⟩
 have hk:=aGg aEk k0 k1
 simp only [push_cast,seval,-Nat.reducePow,k0,k1]
 exact ⟨by have:=f1.1; omega,hk,s1,by have:=f1.1; omega,fun x hx hp=>f1.2 x (by omega) hp⟩
end Go.Ab
namespace Go.Ab
variable {P:Program} {F T:Nat→Nat}
def usT (u:List UInt8):Prop:=u∈aMz
def ttT (t:Ttl):Prop:=t∈aB9
def hisR (v:V):Prop:=∃ h,v=revV h∧impP usT h
theorem aKu:∀ s,s∈bBw→s.length≤200:=by decide
theorem bG7 (hf:aY0 P F T) (h332:aWw P F T) (h376:aTe P F T) (h369:aVs P F T) (h370:aRj P F T) (hx:aIy P F T) (hr:aI5 P F T) (clock:Int) (hc0:0≤clock) (hc1:clock≤52595999):GenC P (F 377) (T 42) [.int .i64 clock] hisR:=by
 intro l hl L nx p hs hp
 refine aEb [] hf (by simp) ?_
 simp only [c377,push_cast,seval,-Nat.reducePow]
 refine aAh (aCp hx hr 3 (by decide) (by decide) l hl (hs.put (by omega)) (by omega)) ?_
 rintro v L1 nx1 ⟨⟨k,rfl,k0,k1⟩,s1,f1⟩
 simp only [push_cast,seval,-Nat.reducePow]
 have hb0:L1 (nx+72)=some (.vec (T 36) 6 []):=by rw [f1.2 _ (by omega) (by omega),aAe]
 refine ⟨⟨by omega,by omega⟩,aAm (fun m s3=>∃ (a:List Rev) (mi n:Int) (id:Nat),a.length+n≤3∧1≤a.length+n∧0≤n∧m=n.toNat∧0≤mi∧mi≤clock∧numP 0 a∧(∀ r,r∈a→(r.text.length≤8192∧r.note.length≤200∧usT r.user∧0≤r.minute∧r.minute≤52595999∧r.seq=0)∧r.minute≤mi)∧a.Pairwise (fun x y=>x.minute≤y.minute) ∧
  s3.env 0=.ptr p 0∧s3.env 1=.int .i64 clock∧s3.env 5=.own id 6 0 a.length∧s3.env 6=.int .i64 mi∧s3.env 7=.int .i64 n∧s3.L id=some (.vec (T 36) 6 (a.map Rev.v))∧nx≤id∧id<s3.nx∧Sr (T 42) l s3.L p∧Fr L nx p s3.L s3.nx) (1+k).toNat ?_ fun m s3 hJ=>?_⟩
 ·simp only [push_cast,seval,-Nat.reducePow]
  exact ⟨[],0,1+k,nx+72,by simp; omega,by simp; omega,by omega,rfl,by omega,hc0,fun k h=>by simp at h,fun r hr=>by simp at hr,List.Pairwise.nil,rfl,rfl,rfl,hb0,by omega,by have:=f1.1; omega,s1,by have:=f1.1; omega,fun x hx hp=>by rw [f1.2 x (by omega) hp,aAd _ _ _ _ (by omega)]⟩
 ·obtain ⟨a,mi,n,id,q1,q2,q3,rfl,q4,q5,q6,q7,q8,j0,j1,j5,j6,j7,jL,jid,jn,js,jf⟩:=hJ
  simp only [push_cast,seval,-Nat.reducePow,j0,j1,j5,j6,j7]
  refine aA0 (fun h0=>?_) (fun h0=>?_)
  ·simp only [push_cast,seval,-Nat.reducePow,j0,j1,j5,j6,j7]
   refine ⟨⟨by omega,by omega⟩,aAh (aP5 h332 hx hr l hl js (by have:=jf.1; omega)) ?_⟩
   rintro v L1 nx1 ⟨⟨u,rfl,hu⟩,s1,f1⟩
   simp only [push_cast,seval,-Nat.reducePow,j0,j1,j5,j6,j7]
   refine aAh (aVl h376 hx hr l hl s1 (by have:=jf.1; have:=f1.1; omega)) ?_
   rintro v L2 nx2 ⟨⟨no,rfl,hno⟩,s2,f2⟩
   simp only [push_cast,seval,-Nat.reducePow,j0,j1,j5,j6,j7]
   refine aAh (aPs h369 h370 hx hr l hl s2 (by have:=jf.1; have:=f1.1; have:=f2.1; omega)) ?_
   rintro v L3 nx3 ⟨⟨te,rfl,hte⟩,s3',f3⟩
   have e1:L3 id=some (.vec (T 36) 6 (a.map Rev.v)):=by
    rw [f3.2 id (by have:=f1.1; have:=f2.1; omega) (by omega),f2.2 id (by have:=f1.1; omega) (by omega),f1.2 id (by omega) (by omega)]; exact jL
   have tk:List.take a.length (a.map Rev.v)=a.map Rev.v:=List.take_of_length_le (by simp)
   simp only [push_cast,seval,-Nat.reducePow,j0,j1,j5,j6,j7,e1,tk]
   refine ⟨by simp,by omega,aAh (aCp hx hr 3 (by decide) (by decide) l hl ((s3'.put (by omega)).put (by have:=jf.1; have:=f1.1; have:=f2.1; have:=f3.1; omega)) (by have:=jf.1; have:=f1.1; have:=f2.1; have:=f3.1; omega)) ?_⟩
   rintro v L4 nx4 ⟨⟨k2,rfl,k20,k21⟩,s4,f4⟩
   simp only [push_cast,seval,-Nat.reducePow,j0,j1,j5,j6,j7]
   obtain ⟨r,hrv⟩:∃ r:Rev,r=⟨(a.length:Int)+1,u,no,te,mi,0⟩:=⟨_,rfl⟩
   have e4:L4 (nx3+28)=some (.vec (T 36) 6 ((a++[r]).map Rev.v)):=by
    rw [f4.2 _ (by omega) (by have:=jf.1; have:=f1.1; have:=f2.1; have:=f3.1; omega),aAe,hrv,List.map_append]; rfl
   refine ⟨⟨by omega,by omega⟩,⟨by omega,by omega⟩,(n-1).toNat,by omega,a++[r],min clock (mi+k2),n-1,nx3+28,by simp; omega,by simp; omega,by omega,rfl,?_,?_,?_,?_,?_,by simp,rfl,rfl,e4,by have:=jf.1; have:=f1.1; have:=f2.1; have:=f3.1; omega,by have:=f4.1; omega,s4,by have:=jf.1; have:=f1.1; have:=f2.1; have:=f3.1; have:=f4.1; omega,fun x hx hp=>?_⟩
   ·omega
   ·omega
   ·intro j hj
    rw [List.length_append,List.length_singleton] at hj
    by_cases hj2:j<a.length
    ·rw [List.getElem_append_left hj2]; exact q6 j hj2
    ·obtain rfl:j=a.length:=by omega
     simp only [List.getElem_append_right (Nat.le_refl _),Nat.sub_self,List.getElem_cons_zero,hrv]
     omega
   ·have hmi:mi≤min clock (mi+k2):=by omega
    intro x hxm
    rcases List.mem_append.1 hxm with hxm | hxm
    ·exact ⟨(q7 x hxm).1,by have:=(q7 x hxm).2; omega⟩
    ·rw [List.mem_singleton.1 hxm,hrv]
     have:=aKu no hno
     exact ⟨⟨by show te.length≤8192; omega,this,hu,q4,by show mi≤52595999; omega,rfl⟩,hmi⟩
   ·refine List.pairwise_append.2 ⟨q8,List.pairwise_singleton ..,fun x hxm y hy=>?_⟩
    rw [List.mem_singleton.1 hy,hrv]
    exact (q7 x hxm).2
   ·rw [f4.2 x (by have:=jf.1; have:=f1.1; have:=f2.1; have:=f3.1; omega) hp,aAd _ _ _ _ (by have:=jf.1; have:=f1.1; have:=f2.1; have:=f3.1; omega),aAd _ _ _ _ (by omega),f3.2 x (by have:=jf.1; have:=f1.1; have:=f2.1; omega) hp,f2.2 x (by have:=jf.1; have:=f1.1; omega) hp,f1.2 x (by have:=jf.1; omega) hp]
    exact jf.2 x hx hp
  ·simp only [push_cast,seval,-Nat.reducePow,j0,j1,j5,j6,j7,jL]
   refine ⟨aA7 _ _ fun _=>rfl,by simp,by have:=jf.1; omega,⟨a,by rw [List.take_of_length_le (by simp)]; rfl,by omega,by omega,q6,fun r hr=>(q7 r hr).1,q8⟩,js.put (by omega),by have:=jf.1; omega,fun x hx hp=>?_⟩
   rw [aAd _ _ _ _ (by omega)]; exact jf.2 x hx hp
end Go.Ab
namespace Go.Ab
variable {P:Program} {F T:Nat→Nat}
def hsV (h:List Rev):V:=if h.isEmpty then .nils else revV h
def Chg.nv (c:Chg):V:=.agg [.int .i64 c.kind,.str c.user,.str c.note,.int .i64 c.t.1,.str c.t.2,.int .i64 c.to.1,.str c.to.2,.str c.text,.int .i64 c.n,hsV c.hist]
def chgR (v:V):Prop:=∃ c,ChgP usT ttT c∧v=c.nv
def aRd:List Int:=[1,1,1,1,1,2,3,4,5,6,7,8,9,10]
theorem aUy {k:Int} (h0:0≤k) (h1:k<14):∃ n:Int,(1≤n∧n≤10)∧(List.take 1 (List.drop (k.toNat*1) (aRd.map (V.int .i64)))).headD V.junk=.int .i64 n:=by
 have h2:k.toNat<aRd.length:=by have:aRd.length=14:=rfl; omega
 refine ⟨aRd[k.toNat],?_,?_⟩
 ·exact (show ∀ n:Int,n∈aRd→1≤n∧n≤10 by decide) _ (List.getElem_mem h2)
 ·rw [Nat.mul_one,List.drop_eq_getElem_cons (by simpa using h2)]
  simp
theorem bAm (hf:bCu P F T) (h377:aY0 P F T) (h333:aYh P F T) (h345:aW3 P F T) (h332:aWw P F T) (h376:aTe P F T) (h369:aVs P F T) (h370:aRj P F T) (hx:aIy P F T) (hr:aI5 P F T) (clock:Int) (hc0:0≤clock) (hc1:clock≤52595999):GenC P (F 373) (T 42) [.int .i64 clock] chgR:=by
 intro l hl L nx p hs hp
 refine aEb [] hf (by simp) ?_
 simp only [c373,push_cast,seval,-Nat.reducePow]
 refine aBq (fun s=>∃ (n:Int) (u:List UInt8) (t:Ttl) (id:Nat),(1≤n∧n≤10)∧usT u∧ttT t∧s.env 0=.ptr p 0∧s.env 1=.int .i64 clock∧s.env 4=.ptr (nx+4) 0∧s.env 5=.ptr id 0∧nx+4<id∧id<s.nx ∧
  s.L (nx+4)=some (.box (T 37) [.int .i64 0,.str [],.str [],.int .i64 0,.str [],.int .i64 0,.str [],.str [],.int .i64 0,.nils])∧s.L id=some (.box (T 37) [.int .i64 n,.str u,.str [],.int .i64 t.1,.str t.2,.int .i64 0,.str [],.str [],.int .i64 0,.nils])∧Sr (T 42) l s.L p∧Fr L nx p s.L s.nx) ?_ ?_
 ·simp only [push_cast,seval,-Nat.reducePow]
  refine aAh (aCp hx hr 14 (by decide) (by decide) l hl (hs.put (by omega)) (by omega)) ?_
  rintro v L1 nx1 ⟨⟨k,rfl,k0,k1⟩,s1,f1⟩
  obtain ⟨n,hn,hk⟩:=aUy k0 k1
  simp only [aRd,List.map_cons,List.map_nil] at hk
  simp only [push_cast,seval,-Nat.reducePow,k0,k1,hk]
  refine aAh (aP5 h332 hx hr l hl s1 (by have:=f1.1; omega)) ?_
  rintro v L2 nx2 ⟨⟨u,rfl,hu⟩,s2,f2⟩
  simp only [push_cast,seval,-Nat.reducePow]
  refine aAh (aKo h333 h345 hx hr l hl s2 (by have:=f1.1; have:=f2.1; omega)) ?_
  rintro v L3 nx3 ⟨⟨t,rfl,ht⟩,s3,f3⟩
  have n1:=f1.1
  have n2:=f2.1
  have n3:=f3.1
  simp only [push_cast,seval,-Nat.reducePow,hk,tV,tCs]
  refine ⟨n,u,t,nx3+5,hn,hu,ht,rfl,by omega,by omega,?_,aAe _ _ _,(s3.put (by omega)).put (by omega),by omega,fun x hx hp=>?_⟩
  ·rw [aAd _ _ _ _ (by omega),aAd _ _ _ _ (by omega),f3.2 _ (by omega) (by omega),f2.2 _ (by omega) (by omega),f1.2 _ (by omega) (by omega),aAe]
  ·rw [aAd _ _ _ _ (by omega),aAd _ _ _ _ (by omega),f3.2 _ (by omega) hp,f2.2 _ (by omega) hp,f1.2 _ (by omega) hp,aAd _ _ _ _ (by omega)]
 ·rintro s0 ⟨n,u,t,id,hn,hu,ht,j0,j1,j4,j5,i1,i2,b4,b5,js,jf⟩
  have jn:=jf.1
  simp only [push_cast,seval,-Nat.reducePow]
  refine aBq (fun s=>∃ c,ChgP usT ttT c∧s.env 4=.ptr (nx+4) 0∧s.env 5=.ptr id 0∧id<s.nx∧s.L (nx+4)=some (.box (T 37) [.int .i64 0,.str [],.str [],.int .i64 0,.str [],.int .i64 0,.str [],.str [],.int .i64 0,.nils]) ∧
   s.L id=some (.box (T 37) [.int .i64 c.kind,.str c.user,.str c.note,.int .i64 c.t.1,.str c.t.2,.int .i64 c.to.1,.str c.to.2,.str c.text,.int .i64 c.n,hsV c.hist])∧Sr (T 42) l s.L p∧Fr L nx p s.L s.nx) ?_ ?_
  ·rcases aKm hn with rfl | rfl | rfl | rfl | rfl | rfl | rfl | rfl | rfl | rfl
   ·simp only [push_cast,seval,-Nat.reducePow,j0,j1,j4,j5,b5]
    refine aAh (aVl h376 hx hr l hl js (by omega)) ?_
    rintro v L1 nx1 ⟨⟨no,rfl,hno⟩,s1,f1⟩
    have n1:=f1.1
    simp only [push_cast,seval,-Nat.reducePow,j0,j1,j4,j5,b5,tV,tCs]
    refine aAh (aPs h369 h370 hx hr l hl s1 (by omega)) ?_
    rintro v L2 nx2 ⟨⟨te,rfl,hte⟩,s2,f2⟩
    have n2:=f2.1
    have c5:=b5
    rw [← f1.2 id (by omega) (by omega),← f2.2 id (by omega) (by omega)] at c5
    simp only [push_cast,seval,-Nat.reducePow,j0,j1,j4,j5,c5,tV,tCs]
    exact ⟨⟨1,u,no,t,zTtl,te,0,[]⟩,{ kd:=by simp,usr:=hu,text:=(by show te.length≤8192; omega),note:=(aKu no hno),note0:=fun h _=>absurd rfl h,n0:=fun _ _ _ _=>rfl,t0:=fun h=>absurd h (by simp),ttl:=fun _ _=>ht,u6:=fun h=>absurd h (by simp),to0:=fun _=>rfl,to4:=fun h=>absurd h (by simp),h0:=fun _=>rfl,h5:=fun h=>absurd h (by simp),n6:=fun h=>absurd h (by simp),u7:=fun h=>absurd h (by simp),n9:=fun h=>absurd h (by simp),n10:=fun h=>absurd h (by simp) },by omega,by rw [aAd _ _ _ _ (by omega),aAd _ _ _ _ (by omega),f2.2 _ (by omega) (by omega),f1.2 _ (by omega) (by omega)]; exact b4,(by first | rfl | exact aAe _ _ _),((s2.put (by omega)).put (by omega)),by omega,fun x hx hp=>by rw [aAd _ _ _ _ (by omega),aAd _ _ _ _ (by omega),f2.2 _ (by omega) hp,f1.2 _ (by omega) hp]; exact jf.2 x hx hp⟩
   ·simp only [push_cast,seval,-Nat.reducePow,j0,j1,j4,j5,b5]
    exact ⟨⟨2,u,[],t,zTtl,[],0,[]⟩,{ kd:=by simp,usr:=hu,text:=(by simp),note:=(by simp),note0:=fun _ _=>⟨rfl,rfl⟩,n0:=fun _ _ _ _=>rfl,t0:=fun h=>absurd h (by simp),ttl:=fun _ _=>ht,u6:=fun h=>absurd h (by simp),to0:=fun _=>rfl,to4:=fun h=>absurd h (by simp),h0:=fun _=>rfl,h5:=fun h=>absurd h (by simp),n6:=fun h=>absurd h (by simp),u7:=fun h=>absurd h (by simp),n9:=fun h=>absurd h (by simp),n10:=fun h=>absurd h (by simp) },by omega,b4,rfl,js,by omega,fun x hx hp=>jf.2 x hx hp⟩
   ·simp only [push_cast,seval,-Nat.reducePow,j0,j1,j4,j5,b5]
    exact ⟨⟨3,u,[],t,zTtl,[],0,[]⟩,{ kd:=by simp,usr:=hu,text:=(by simp),note:=(by simp),note0:=fun _ _=>⟨rfl,rfl⟩,n0:=fun _ _ _ _=>rfl,t0:=fun h=>absurd h (by simp),ttl:=fun _ _=>ht,u6:=fun h=>absurd h (by simp),to0:=fun _=>rfl,to4:=fun h=>absurd h (by simp),h0:=fun _=>rfl,h5:=fun h=>absurd h (by simp),n6:=fun h=>absurd h (by simp),u7:=fun h=>absurd h (by simp),n9:=fun h=>absurd h (by simp),n10:=fun h=>absurd h (by simp) },by omega,b4,rfl,js,by omega,fun x hx hp=>jf.2 x hx hp⟩
   ·simp only [push_cast,seval,-Nat.reducePow,j0,j1,j4,j5,b5]
    refine aAh (aKo h333 h345 hx hr l hl js (by omega)) ?_
    rintro v L1 nx1 ⟨⟨to,rfl,hto⟩,s1,f1⟩
    have n1:=f1.1
    simp only [push_cast,seval,-Nat.reducePow,j0,j1,j4,j5,b5,tV,tCs]
    refine aAh (aCp hx hr 2 (by decide) (by decide) l hl s1 (by omega)) ?_
    rintro v L2 nx2 ⟨⟨k,rfl,k0,k1⟩,s2,f2⟩
    have n2:=f2.1
    have c5:=b5
    rw [← f1.2 id (by omega) (by omega),← f2.2 id (by omega) (by omega)] at c5
    simp only [push_cast,seval,-Nat.reducePow,j0,j1,j4,j5,c5,tV,tCs]
    exact ⟨⟨4,u,[],t,to,[],k,[]⟩,{ kd:=by simp,usr:=hu,text:=(by simp),note:=(by simp),note0:=fun _ _=>⟨rfl,rfl⟩,n0:=fun h=>absurd rfl h,t0:=fun h=>absurd h (by simp),ttl:=fun _ _=>ht,u6:=fun h=>absurd h (by simp),to0:=fun h=>absurd rfl h,to4:=fun _=>⟨hto,by show k=0∨k=1; omega⟩,h0:=fun _=>rfl,h5:=fun h=>absurd h (by simp),n6:=fun h=>absurd h (by simp),u7:=fun h=>absurd h (by simp),n9:=fun h=>absurd h (by simp),n10:=fun h=>absurd h (by simp) },by omega,by rw [aAd _ _ _ _ (by omega),aAd _ _ _ _ (by omega),f2.2 _ (by omega) (by omega),f1.2 _ (by omega) (by omega)]; exact b4,(by first | rfl | exact aAe _ _ _),((s2.put (by omega)).put (by omega)),by omega,fun x hx hp=>by rw [aAd _ _ _ _ (by omega),aAd _ _ _ _ (by omega),f2.2 _ (by omega) hp,f1.2 _ (by omega) hp]; exact jf.2 x hx hp⟩
   ·simp only [push_cast,seval,-Nat.reducePow,j0,j1,j4,j5,b5]
    refine aAh (bG7 h377 h332 h376 h369 h370 hx hr clock hc0 hc1 l hl js (by omega)) ?_
    rintro v L1 nx1 ⟨⟨h,rfl,hh⟩,s1,f1⟩
    have n1:=f1.1
    have c5:=b5
    rw [← f1.2 id (by omega) (by omega)] at c5
    have hcl:(revV h).cells=[revV h]:=rfl
    have hnc:(revV h).ncells=some 1:=rfl
    have hne:h.isEmpty=false:=by have:=hh.1; cases h with | nil=>simp at this | cons _ _=>rfl
    have hhv:hsV h=revV h:=by rw [hsV,hne]; rfl
    simp only [push_cast,seval,-Nat.reducePow,j0,j1,j4,j5,c5,tV,tCs,hcl,hnc]
    exact ⟨⟨5,u,[],t,zTtl,[],0,h⟩,{ kd:=by simp,usr:=hu,text:=(by simp),note:=(by simp),note0:=fun _ _=>⟨rfl,rfl⟩,n0:=fun _ _ _ _=>rfl,t0:=fun h=>absurd h (by simp),ttl:=fun _ _=>ht,u6:=fun h=>absurd h (by simp),to0:=fun _=>rfl,to4:=fun h=>absurd h (by simp),h0:=fun h=>absurd rfl h,h5:=fun _=>hh,n6:=fun h=>absurd h (by simp),u7:=fun h=>absurd h (by simp),n9:=fun h=>absurd h (by simp),n10:=fun h=>absurd h (by simp) },by omega,by rw [aAd _ _ _ _ (by omega),f1.2 _ (by omega) (by omega)]; exact b4,(by rw [hhv]; first | rfl | exact aAe _ _ _),(s1.put (by omega)),by omega,fun x hx hp=>by rw [aAd _ _ _ _ (by omega),f1.2 _ (by omega) hp]; exact jf.2 x hx hp⟩
   ·simp only [push_cast,seval,-Nat.reducePow,j0,j1,j4,j5,b5]
    refine aAh (aCp hx hr 2000 (by decide) (by decide) l hl js (by omega)) ?_
    rintro v L1 nx1 ⟨⟨k,rfl,k0,k1⟩,s1,f1⟩
    have n1:=f1.1
    have c5:=b5
    rw [← f1.2 id (by omega) (by omega)] at c5
    simp only [push_cast,seval,-Nat.reducePow,j0,j1,j4,j5,c5,tV,tCs]
    refine ⟨⟨by omega,by omega⟩,?_⟩
    exact ⟨⟨6,[],[],zTtl,zTtl,[],1+k,[]⟩,{ kd:=by simp,usr:=(by simp [usT,aMz]),text:=(by simp),note:=(by simp),note0:=fun _ _=>⟨rfl,rfl⟩,n0:=fun _ h=>absurd rfl h,t0:=fun _=>rfl,ttl:=fun h _=>absurd rfl h,u6:=fun _=>rfl,to0:=fun _=>rfl,to4:=fun h=>absurd h (by simp),h0:=fun _=>rfl,h5:=fun h=>absurd h (by simp),n6:=fun _=>⟨by show 1≤1+k; omega,by show 1+k≤2000; omega⟩,u7:=fun h=>absurd h (by simp),n9:=fun h=>absurd h (by simp),n10:=fun h=>absurd h (by simp) },by omega,by rw [aAd _ _ _ _ (by omega),f1.2 _ (by omega) (by omega)]; exact b4,(by first | rfl | exact aAe _ _ _),(s1.put (by omega)),by omega,fun x hx hp=>by rw [aAd _ _ _ _ (by omega),f1.2 _ (by omega) hp]; exact jf.2 x hx hp⟩
   ·simp only [push_cast,seval,-Nat.reducePow,j0,j1,j4,j5,b5]
    refine aA0 (fun h0=>?_) (fun h0=>?_)
    ·simp only [push_cast,seval,-Nat.reducePow,j0,j1,j4,j5,b5]
     have hun:([98,111,98]:List UInt8)≠[]:=by decide
     exact ⟨⟨7,[98,111,98],[],t,zTtl,[],0,[]⟩,{ kd:=by simp,usr:=(by simp [usT,aMz]),text:=(by simp),note:=(by simp),note0:=fun _ _=>⟨rfl,rfl⟩,n0:=fun _ _ _ _=>rfl,t0:=fun h=>absurd h (by simp),ttl:=fun _ _=>ht,u6:=fun h=>absurd h (by simp),to0:=fun _=>rfl,to4:=fun h=>absurd h (by simp),h0:=fun _=>rfl,h5:=fun h=>absurd h (by simp),n6:=fun h=>absurd h (by simp),u7:=fun _=>hun,n9:=fun h=>absurd h (by simp),n10:=fun h=>absurd h (by simp) },by omega,by rw [aAd _ _ _ _ (by omega)]; exact b4,(by first | rfl | exact aAe _ _ _),(js.put (by omega)),by omega,fun x hx hp=>by rw [aAd _ _ _ _ (by omega)]; exact jf.2 x hx hp⟩
    ·simp only [push_cast,seval,-Nat.reducePow,j0,j1,j4,j5,b5]
     have hun:=h0
     exact ⟨⟨7,u,[],t,zTtl,[],0,[]⟩,{ kd:=by simp,usr:=hu,text:=(by simp),note:=(by simp),note0:=fun _ _=>⟨rfl,rfl⟩,n0:=fun _ _ _ _=>rfl,t0:=fun h=>absurd h (by simp),ttl:=fun _ _=>ht,u6:=fun h=>absurd h (by simp),to0:=fun _=>rfl,to4:=fun h=>absurd h (by simp),h0:=fun _=>rfl,h5:=fun h=>absurd h (by simp),n6:=fun h=>absurd h (by simp),u7:=fun _=>hun,n9:=fun h=>absurd h (by simp),n10:=fun h=>absurd h (by simp) },by omega,b4,rfl,js,by omega,fun x hx hp=>jf.2 x hx hp⟩
   ·simp only [push_cast,seval,-Nat.reducePow,j0,j1,j4,j5,b5]
    refine aA0 (fun h0=>?_) (fun h0=>?_)
    ·simp only [push_cast,seval,-Nat.reducePow,j0,j1,j4,j5,b5]
     have hun:([98,111,98]:List UInt8)≠[]:=by decide
     exact ⟨⟨8,[98,111,98],[],t,zTtl,[],0,[]⟩,{ kd:=by simp,usr:=(by simp [usT,aMz]),text:=(by simp),note:=(by simp),note0:=fun _ _=>⟨rfl,rfl⟩,n0:=fun _ _ _ _=>rfl,t0:=fun h=>absurd h (by simp),ttl:=fun _ _=>ht,u6:=fun h=>absurd h (by simp),to0:=fun _=>rfl,to4:=fun h=>absurd h (by simp),h0:=fun _=>rfl,h5:=fun h=>absurd h (by simp),n6:=fun h=>absurd h (by simp),u7:=fun _=>hun,n9:=fun h=>absurd h (by simp),n10:=fun h=>absurd h (by simp) },by omega,by rw [aAd _ _ _ _ (by omega)]; exact b4,(by first | rfl | exact aAe _ _ _),(js.put (by omega)),by omega,fun x hx hp=>by rw [aAd _ _ _ _ (by omega)]; exact jf.2 x hx hp⟩
    ·simp only [push_cast,seval,-Nat.reducePow,j0,j1,j4,j5,b5]
     have hun:=h0
     exact ⟨⟨8,u,[],t,zTtl,[],0,[]⟩,{ kd:=by simp,usr:=hu,text:=(by simp),note:=(by simp),note0:=fun _ _=>⟨rfl,rfl⟩,n0:=fun _ _ _ _=>rfl,t0:=fun h=>absurd h (by simp),ttl:=fun _ _=>ht,u6:=fun h=>absurd h (by simp),to0:=fun _=>rfl,to4:=fun h=>absurd h (by simp),h0:=fun _=>rfl,h5:=fun h=>absurd h (by simp),n6:=fun h=>absurd h (by simp),u7:=fun _=>hun,n9:=fun h=>absurd h (by simp),n10:=fun h=>absurd h (by simp) },by omega,b4,rfl,js,by omega,fun x hx hp=>jf.2 x hx hp⟩
   ·simp only [push_cast,seval,-Nat.reducePow,j0,j1,j4,j5,b5]
    refine aAh (aVl h376 hx hr l hl js (by omega)) ?_
    rintro v L1 nx1 ⟨⟨no,rfl,hno⟩,s1,f1⟩
    have n1:=f1.1
    simp only [push_cast,seval,-Nat.reducePow,j0,j1,j4,j5,b5,tV,tCs]
    refine aAh (aPs h369 h370 hx hr l hl s1 (by omega)) ?_
    rintro v L2 nx2 ⟨⟨te,rfl,hte⟩,s2,f2⟩
    have n2:=f2.1
    have c5:=b5
    rw [← f1.2 id (by omega) (by omega),← f2.2 id (by omega) (by omega)] at c5
    simp only [push_cast,seval,-Nat.reducePow,j0,j1,j4,j5,c5,tV,tCs]
    refine aAh (aCp hx hr 3 (by decide) (by decide) l hl ((s2.put (by omega)).put (by omega)) (by omega)) ?_
    rintro v L3 nx3 ⟨⟨k,rfl,k0,k1⟩,s3,f3⟩
    have n3:=f3.1
    have d5:=f3.2 id (by omega) (by omega)
    rw [aAe] at d5
    simp only [push_cast,seval,-Nat.reducePow,j0,j1,j4,j5,d5]
    exact ⟨⟨9,u,no,t,zTtl,te,k,[]⟩,{ kd:=by simp,usr:=hu,text:=(by show te.length≤8192; omega),note:=(aKu no hno),note0:=fun _ h=>absurd rfl h,n0:=fun _ _ h=>absurd rfl h,t0:=fun h=>absurd h (by simp),ttl:=fun _ _=>ht,u6:=fun h=>absurd h (by simp),to0:=fun _=>rfl,to4:=fun h=>absurd h (by simp),h0:=fun _=>rfl,h5:=fun h=>absurd h (by simp),n6:=fun h=>absurd h (by simp),u7:=fun h=>absurd h (by simp),n9:=fun _=>⟨by show 0≤k; omega,by show k≤40; omega⟩,n10:=fun h=>absurd h (by simp) },by omega,by rw [aAd _ _ _ _ (by omega),f3.2 _ (by omega) (by omega),aAd _ _ _ _ (by omega),aAd _ _ _ _ (by omega),f2.2 _ (by omega) (by omega),f1.2 _ (by omega) (by omega)]; exact b4,(by first | rfl | exact aAe _ _ _),s3.put (by omega),by omega,fun x hx hp=>by rw [aAd _ _ _ _ (by omega),f3.2 _ (by omega) hp,aAd _ _ _ _ (by omega),aAd _ _ _ _ (by omega),f2.2 _ (by omega) hp,f1.2 _ (by omega) hp]; exact jf.2 x hx hp⟩
   ·simp only [push_cast,seval,-Nat.reducePow,j0,j1,j4,j5,b5]
    refine aAh (aCp hx hr 4 (by decide) (by decide) l hl js (by omega)) ?_
    rintro v L1 nx1 ⟨⟨k,rfl,k0,k1⟩,s1,f1⟩
    have n1:=f1.1
    have c5:=b5
    rw [← f1.2 id (by omega) (by omega)] at c5
    simp only [push_cast,seval,-Nat.reducePow,j0,j1,j4,j5,c5,tV,tCs]
    refine ⟨⟨by omega,by omega⟩,?_⟩
    exact ⟨⟨10,u,[],zTtl,zTtl,[],1+k,[]⟩,{ kd:=by simp,usr:=hu,text:=(by simp),note:=(by simp),note0:=fun _ _=>⟨rfl,rfl⟩,n0:=fun _ _ _ h=>absurd rfl h,t0:=fun _=>rfl,ttl:=fun _ h=>absurd rfl h,u6:=fun h=>absurd h (by simp),to0:=fun _=>rfl,to4:=fun h=>absurd h (by simp),h0:=fun _=>rfl,h5:=fun h=>absurd h (by simp),n6:=fun h=>absurd h (by simp),u7:=fun h=>absurd h (by simp),n9:=fun h=>absurd h (by simp),n10:=fun _=>⟨by show 1≤1+k; omega,by show 1+k≤100; omega⟩ },by omega,by rw [aAd _ _ _ _ (by omega),aAd _ _ _ _ (by omega),f1.2 _ (by omega) (by omega)]; exact b4,(by first | rfl | exact aAe _ _ _),((s1.put (by omega)).put (by omega)),by omega,fun x hx hp=>by rw [aAd _ _ _ _ (by omega),aAd _ _ _ _ (by omega),f1.2 _ (by omega) hp]; exact jf.2 x hx hp⟩
  ·rintro s1 ⟨c,hc,m4,m5,i3,c4,c5,ks,kf⟩
   have kn:=kf.1
   have h1v:(hsV c.hist).one=true:=by unfold hsV; split <;> rfl
   simp only [push_cast,seval,-Nat.reducePow,m4,m5,c4,c5,h1v]
   exact ⟨by omega,⟨c,hc,rfl⟩,ks.put (by omega),by omega,fun x hx hp=>by rw [aAd _ _ _ _ (by omega)]; exact kf.2 x hx hp⟩
end Go.Ab
namespace Go.Ab
variable {P:Program} {F T:Nat→Nat}
structure GnF (P:Program) (F T:Nat→Nat):Prop where
 f291:bGb P F T
 f292:bCk P F T
 f331:bHo P F T
 f332:aWw P F T
 f333:aYh P F T
 f345:aW3 P F T
 f349:aIy P F T
 f367:bCw P F T
 f368:aI5 P F T
 f369:aVs P F T
 f370:aRj P F T
 f372:bDk P F T
 f373:bCu P F T
 f376:aTe P F T
 f377:aY0 P F T
def chsR (v:V):Prop:=∃ cs:List Chg,v=.lst 10 (cs.map Chg.nv)∧1≤cs.length∧cs.length≤2∧∀ c,c∈cs→ChgP usT ttT c
theorem bA5 (c:Chg):c.nv.imm=true:=by
 have:(hsV c.hist).imm=true:=by
  unfold hsV; split
  ·rfl
  ·exact aBl _
 simp [Chg.nv,V.imm,V.imms,this]
theorem bLt (c:Chg):V.le c.nv c.v:=by
 have:V.le (hsV c.hist) (revV c.hist):=by
  unfold hsV
  split
  ·rename_i h
   have:c.hist=[]:=by simpa using h
   rw [this]; simp [revV,V.le]
  ·exact V.le_refl _
 simp only [Chg.nv,Chg.v,Chg.cs,aJa,aDe,aEz,this,V.le_refl,and_self]
theorem bA8:∀ cs:List Chg,V.leL (cs.map Chg.nv) (cs.map Chg.v)
 | []=>by simp [V.leL]
 | c::r=>by simp only [List.map_cons,aDe]; exact ⟨bLt c,bA8 r⟩
theorem aWm (hf:bDk P F T) (G:GnF P F T) (clock:Int) (hc0:0≤clock) (hc1:clock≤52595999):GenC P (F 372) (T 42) [.int .i64 clock] chsR:=by
 intro l hl L nx p hs hp
 refine aEb [] hf (by simp) ?_
 simp only [c372,push_cast,seval,-Nat.reducePow]
 refine aAh (aCp G.f349 G.f368 6 (by decide) (by decide) l hl (hs.put (by omega)) (by omega)) ?_
 rintro v L1 nx1 ⟨⟨k,rfl,k0,k1⟩,s1,f1⟩
 have n1:=f1.1
 have hd:0≤k.tdiv 3∧k.tdiv 3≤1:=by
  rw [Int.tdiv_eq_ediv_of_nonneg k0]; omega
 obtain ⟨q,hq⟩:∃ q,q=k.tdiv 3:=⟨_,rfl⟩
 simp only [push_cast,seval,-Nat.reducePow,← hq]
 rw [← hq] at hd
 have hb0:L1 (nx+44)=some (.vec (T 37) 10 []):=by rw [f1.2 _ (by omega) (by omega),aAe]
 refine ⟨⟨by omega,by omega⟩,⟨by omega,by omega⟩,aAm (fun m s3=>∃ (a:List Chg) (n:Int) (id:Nat),a.length+n≤2∧1≤a.length+n∧0≤n∧m=n.toNat∧(∀ c,c∈a→ChgP usT ttT c) ∧
  s3.env 0=.ptr p 0∧s3.env 1=.int .i64 clock∧s3.env 5=.own id 10 0 a.length∧s3.env 6=.int .i64 n∧s3.L id=some (.vec (T 37) 10 (a.map Chg.nv))∧nx≤id∧id<s3.nx∧Sr (T 42) l s3.L p∧Fr L nx p s3.L s3.nx) (1+q).toNat ?_ fun m s3 hJ=>?_⟩
 ·simp only [push_cast,seval,-Nat.reducePow]
  exact ⟨[],1+q,nx+44,by simp; omega,by simp; omega,by omega,rfl,fun r hr=>by simp at hr,rfl,rfl,hb0,by omega,by omega,s1,by omega,fun x hx hp=>by rw [f1.2 x (by omega) hp,aAd _ _ _ _ (by omega)]⟩
 ·obtain ⟨a,n,id,q1,q2,q3,rfl,q7,j0,j1,j5,j6,jL,jid,jn,js,jf⟩:=hJ
  have kn:=jf.1
  simp only [push_cast,seval,-Nat.reducePow,j0,j1,j5,j6]
  refine aA0 (fun h0=>?_) (fun h0=>?_)
  ·simp only [push_cast,seval,-Nat.reducePow,j0,j1,j5,j6]
   refine aAh (bAm G.f373 G.f377 G.f333 G.f345 G.f332 G.f376 G.f369 G.f370 G.f349 G.f368 clock hc0 hc1 l hl js (by omega)) ?_
   rintro v L2 nx2 ⟨⟨c,hc,rfl⟩,s2,f2⟩
   have n2:=f2.1
   have e1:L2 id=some (.vec (T 37) 10 (a.map Chg.nv)):=by rw [f2.2 id (by omega) (by omega)]; exact jL
   have tk:List.take a.length (a.map Chg.nv)=a.map Chg.nv:=List.take_of_length_le (by simp)
   have h1v:(hsV c.hist).one=true:=by unfold hsV; split <;> rfl
   simp only [push_cast,seval,-Nat.reducePow,Chg.nv,h1v,j0,j1,j5,j6]
   simp only [← Chg.nv.eq_1,e1,push_cast,seval,-Nat.reducePow,tk,j6]
   refine ⟨by simp,by omega,⟨by omega,by omega⟩,(n-1).toNat,by omega,a++[c],n-1,nx2+20,by simp; omega,by simp; omega,by omega,rfl,?_,j0,j1,by simp,rfl,by rw [aAe]; simp,by omega,by omega,(s2.put (by omega)).put (by omega),by omega,fun x hx hp=>?_⟩
   ·intro x hxm
    rcases List.mem_append.1 hxm with hxm | hxm
    ·exact q7 x hxm
    ·rw [List.mem_singleton.1 hxm]; exact hc
   ·rw [aAd _ _ _ _ (by omega),aAd _ _ _ _ (by omega),f2.2 x (by omega) hp]
    exact jf.2 x hx hp
  ·simp only [push_cast,seval,-Nat.reducePow,j0,j1,j5,j6,jL]
   refine ⟨aA7 _ _ bA5,by simp,by omega,⟨a,by rw [List.take_of_length_le (by simp)],by omega,by omega,q7⟩,js.put (by omega),by omega,fun x hx hp=>?_⟩
   rw [aAd _ _ _ _ (by omega)]; exact jf.2 x hx hp
theorem t292 (hf:bCk P F T):PTr P (F 292) [] (tV polT):=by
 refine ptrC [] hf (by simp) rfl ?_
 simp only [c292,push_cast,seval,-Nat.reducePow]
 exact aAc 3 _ rfl
variable {ok:Ttl→Bool} {nm:List UInt8→Bool} {w:List UInt8}
theorem aIf {z:Nat}:V.le .nils (.lst z []):=by simp [V.le]
theorem t291 (G:GnF P F T) (H:StE P F T usT ttT ok nm) (hw:PolC P F w) (hwl:w.length≤8192):PTr P (F 291) [.str w] (begS w).v:=by
 have hb:=aVj H hw hwl
 refine ptrC [] G.f291 (by simp) (aIu _) ?_
 simp only [c291,push_cast,seval,-Nat.reducePow]
 refine aAa (t292 G.f292) (by simp only [push_cast,seval,-Nat.reducePow]) (by simp only [push_cast,seval,-Nat.reducePow,tV,tCs]) ?_
 simp only [push_cast,seval,-Nat.reducePow,tV,tCs,polT]
 refine aF0 hb ?_ (by simp only [push_cast,seval,-Nat.reducePow]) (aAk _) ?_
 ·simp only [zStt,Stt.v,Stt.cs,polC,Chg.v,Chg.cs,stoV,pplV,watV,lasV,revV,polT,zTtl,List.map_nil,aJa,aKa,aDe,aEz,aIf,V.le_refl,and_self]
 simp only [push_cast,seval,-Nat.reducePow,outS,Stt.v,Stt.cs,stoV,pplV,watV,lasV]
 exact aAc 3 _ (aIu _)
def staR (w:List UInt8) (k:Nat) (v:V):Prop:=∃ s:Stt,v=s.v∧MstP usT ttT w k s.seq s∧s.seq≤k
theorem MstP.le {us:List UInt8→Prop} {tt:Ttl→Prop} {k k':Nat} {top:Int} {s:Stt} (h:MstP us tt w k top s) (hk:k≤k'):MstP us tt w k' top s:=by
 induction hk with
 | refl=>exact h
 | step _ ih=>exact ih.up
theorem bD4 (hf:bAn P F T) (G:GnF P F T) (H:StE P F T usT ttT ok nm) (hw:PolC P F w) (k:Nat) (n:Int) (s0:Stt) (hm:MstP usT ttT w k s0.seq s0) (hq:s0.seq≤k) (hn0:0≤n) (hk:k+2*n≤30) (l:List Int) (hl:l.length<2^63) {L:Heap} {nx p:Nat} (hs:Sr (T 42) l L p) (hp:p<nx) :
 ECall P (F 378) [s0.v,.ptr p 0,.int .i64 n] L nx fun v L' nx'=>staR w 30 v∧Sr (T 42) l L' p∧Fr L nx p L' nx':=by
 refine aEb [] hf (by simp) ?_
 simp only [c378,push_cast,seval,-Nat.reducePow,Stt.v,Stt.cs,stoV,pplV,watV,lasV]
 refine aAm (fun m s3=>∃ (k:Nat) (n:Int) (st:Stt),MstP usT ttT w k st.seq st∧st.seq≤k∧0≤n∧k+2*n≤30∧m=n.toNat∧s3.env 1=.ptr p 0∧s3.env 2=.int .i64 n∧s3.env 3=.ptr (nx+3) 0∧s3.env 6=.ptr (nx+6) 0∧s3.L (nx+3)=some (boxS T st) ∧
  s3.L (nx+6)=some (.box (T 34) [V.int IntKind.i64 0,V.int IntKind.i64 0,V.nils,V.nils,V.nils,V.int IntKind.i64 0,V.nils,V.nils])∧nx+26≤s3.nx∧Sr (T 42) l s3.L p∧Fr L nx p s3.L s3.nx) n.toNat ?_ fun m s3 hJ=>?_
 ·simp only [push_cast,seval,-Nat.reducePow]
  exact ⟨k,n,s0,hm,hq,hn0,hk,rfl,rfl,rfl,(hs.put (by omega)).put (by omega),by omega,fun x hx hp=>by rw [aAd _ _ _ _ (by omega),aAd _ _ _ _ (by omega)]⟩
 ·obtain ⟨k,n,st,q1,q2,q3,q4,rfl,j1,j2,j3,j6,b3,b6,jn,js,jf⟩:=hJ
  simp only [push_cast,seval,-Nat.reducePow,j1,j2,j3,j6,b3,b6]
  refine aA0 (fun h0=>?_) (fun h0=>?_)
  ·simp only [push_cast,seval,-Nat.reducePow,j1,j2,j3,j6,b3,b6]
   have c0:=q1.clk0
   have c1:=q1.clk1
   refine aAh (aWm G.f372 G st.clock c0 (by omega) l hl js (by omega)) ?_
   rintro v L2 nx2 ⟨⟨cs,rfl,l1,l2,hcs⟩,s2,f2⟩
   have n2:=f2.1
   have hap:=aGd H hw (pol:=fun _=>true) q1 hcs l1 (by omega) (by omega) (by omega)
   refine ⟨by rw [f2.2 _ (by omega) (by omega),b3],?_⟩
   have d3:L2 (nx+3)=some (boxS T st):=by rw [f2.2 _ (by omega) (by omega),b3]
   have d6:L2 (nx+6)=some (.box (T 34) [V.int IntKind.i64 0,V.int IntKind.i64 0,V.nils,V.nils,V.nils,V.int IntKind.i64 0,V.nils,V.nils]):=by rw [f2.2 _ (by omega) (by omega),b6]
   refine aF0 hap ?_ ?_ (aF9 _) ?_
   ·simp only [aDe,aEz,aKa,bA8,and_true]; exact V.le_refl _
   ·simp only [V.imm,V.imms,aAg,aAl,aAo,aAn,Bool.and_true,Bool.true_and]; exact aA7 _ _ bA5
   have u3:∀ x y,upd (upd L2 (nx2+7) x) (nx2+7) y (nx+3)=some (boxS T st):=fun x y=>by rw [aAd _ _ _ _ (by omega),aAd _ _ _ _ (by omega)]; exact d3
   have u6:∀ x y,upd (upd L2 (nx2+7) x) (nx2+7) y (nx+6)=some (.box (T 34) [V.int IntKind.i64 0,V.int IntKind.i64 0,V.nils,V.nils,V.nils,V.int IntKind.i64 0,V.nils,V.nils]):=fun x y=>by rw [aAd _ _ _ _ (by omega),aAd _ _ _ _ (by omega)]; exact d6
   cases hr:(aCo ok (fun _=>true) st cs) with
   | mk t e =>
     by_cases he:e=0
     ·subst he
      obtain ⟨m1,m2⟩:=aHx H.ntt H.hred q1 hcs (by omega) hr
      simp only [aplV,if_true,outS,Stt.v,Stt.cs,stoV,pplV,watV,lasV,push_cast,seval,-Nat.reducePow,j1,j2,j3,j6,u3,u6]
      refine ⟨⟨by omega,by omega⟩,(n-1).toNat,by omega,k+cs.length,n-1,t,m1,by omega,by omega,by omega,rfl,rfl,rfl,by omega,((s2.put (by omega)).put (by omega)).put (by omega),by omega,fun x hx hp=>?_⟩
      ·rw [aAd _ _ _ _ (by omega),aAd _ _ _ _ (by omega),aAd _ _ _ _ (by omega),f2.2 x (by omega) hp]
       exact jf.2 x hx hp
     ·simp only [aplV,if_neg he,push_cast,seval,-Nat.reducePow,j1,j2,j3,j6,u3,u6,he]
      refine ⟨⟨by omega,by omega⟩,(n-1).toNat,by omega,k,n-1,st,q1,q2,by omega,by omega,rfl,rfl,rfl,by omega,(s2.put (by omega)).put (by omega),by omega,fun x hx hp=>?_⟩
      ·rw [aAd _ _ _ _ (by omega),aAd _ _ _ _ (by omega),f2.2 x (by omega) hp]
       exact jf.2 x hx hp
  ·simp only [push_cast,seval,-Nat.reducePow,j1,j2,j3,j6,b3,b6]
   exact ⟨by omega,⟨st,rfl,q1.le (by omega),by omega⟩,js.put (by omega),by omega,fun x hx hp=>by rw [aAd _ _ _ _ (by omega)]; exact jf.2 x hx hp⟩
theorem aVq {u te:List UInt8} {t:Ttl} (hu:usT u) (ht:ttT t) (hte:te.length≤8192):ChgP usT ttT ⟨1,u,[],t,zTtl,te,0,[]⟩ :=
 { kd:=by simp,usr:=hu,text:=hte,note:=by simp,note0:=fun h _=>absurd rfl h,n0:=fun _ _ _ _=>rfl,t0:=fun h=>absurd h (by simp),ttl:=fun _ _=>ht,u6:=fun h=>absurd h (by simp),to0:=fun _=>rfl,to4:=fun h=>absurd h (by simp),h0:=fun _=>rfl,h5:=fun h=>absurd h (by simp),n6:=fun h=>absurd h (by simp),u7:=fun h=>absurd h (by simp),n9:=fun h=>absurd h (by simp),n10:=fun h=>absurd h (by simp) }
theorem bE9 (hf:bCb P F T) (ha:bAn P F T) (G:GnF P F T) (H:StE P F T usT ttT ok nm) (hpol:∀ w,w∈aEk→PolC P F w∧w.length≤8192) (l:List Int) (hl:l.length<2^63) {L:Heap} {nx:Nat} :
 ECall P (F 330) [.lst 1 (ints l)] L nx fun v L' nx'=>(∃ w,w∈aEk∧staR w 30 v)∧nx≤nx'∧∀ b,b<nx→L' b=L b:=by
 refine aEb [] hf (by simp) ?_
 simp only [c330,push_cast,seval,-Nat.reducePow]
 refine aAh (bA9 G.f331 l hl) ?_
 rintro v L1 nx1 ⟨rfl,e1,n1,f1⟩
 obtain ⟨p,hp⟩:∃ p,p=nx+90+53:=⟨_,rfl⟩
 rw [← hp] at e1 ⊢
 have s1:Sr (T 42) l L1 p:=⟨0,_,Nat.zero_le _,e1⟩
 refine aAh (aYf G.f367 G.f349 G.f368 l hl s1 (by omega)) ?_
 rintro v L2 nx2 ⟨⟨w,rfl,hw⟩,s2,f2⟩
 have n2:=f2.1
 obtain ⟨hpw,hwl⟩:=hpol w hw
 refine aAa (t291 G H hpw hwl) (by simp only [push_cast,seval,-Nat.reducePow]) (aIu _) ?_
 simp only [push_cast,seval,-Nat.reducePow,Stt.v,Stt.cs,stoV,pplV,watV,lasV]
 refine aAh (aCp G.f349 G.f368 5 (by decide) (by decide) l hl ((s2.put (by omega)).put (by omega)) (by omega)) ?_
 rintro v L3 nx3 ⟨⟨k,rfl,k0,k1⟩,s3,f3⟩
 have n3:=f3.1
 obtain ⟨b,hb⟩:∃ b,b=nx2+4:=⟨_,rfl⟩
 have d2:L3 (nx+2)=some (.box (T 34) [V.int IntKind.i64 0,V.int IntKind.i64 0,V.nils,V.nils,V.nils,V.int IntKind.i64 0,V.nils,V.nils]):=by
  rw [f3.2 _ (by omega) (by omega),aAd _ _ _ _ (by omega),aAd _ _ _ _ (by omega),f2.2 _ (by omega) (by omega),f1 _ (by omega),aAe]
 have d4:L3 b=some (boxS T (begS w)):=by rw [f3.2 _ (by omega) (by omega),hb,aAe]
 rw [← hb]
 simp only [push_cast,seval,-Nat.reducePow]
 refine ⟨⟨by omega,by omega⟩,aAm (fun m s5=>∃ (i:Nat) (st:Stt),(i:Int)≤3+k∧m=(3+k).toNat-i∧MstP usT ttT w (1+i) st.seq st∧st.seq≤1+i∧s5.env 2=.ptr (nx+2) 0∧s5.env 3=.ptr p 0∧s5.env 4=.ptr b 0∧s5.env 5=.int .i64 (3+k)∧s5.env 6=.int .i64 i∧b<s5.nx ∧
  s5.L (nx+2)=some (.box (T 34) [V.int IntKind.i64 0,V.int IntKind.i64 0,V.nils,V.nils,V.nils,V.int IntKind.i64 0,V.nils,V.nils])∧s5.L b=some (boxS T st)∧Sr (T 42) l s5.L p∧∀ x,x<nx→s5.L x=L x) (3+k).toNat ?_ fun m s5 hJ=>?_⟩
 ·simp only [push_cast,seval,-Nat.reducePow]
  refine ⟨0,begS w,by omega,by omega,bBs H.us0 hwl,by simp [begS],rfl,by omega,d2,d4,s3,fun x hx=>?_⟩
  rw [f3.2 x (by omega) (by omega),aAd _ _ _ _ (by omega),aAd _ _ _ _ (by omega),f2.2 x (by omega) (by omega),f1 x (by omega),aAd _ _ _ _ (by omega)]
 ·obtain ⟨i,st,q1,rfl,q2,q3,j2,j3,j4,j5,j6,jn,e2,e4,js,jf⟩:=hJ
  simp only [push_cast,seval,-Nat.reducePow,j2,j3,j4,j5,j6,e2,e4]
  refine aA0 (fun h0=>?_) (fun h0=>?_)
  ·simp only [push_cast,seval,-Nat.reducePow,j2,j3,j4,j5,j6,e2,e4]
   refine aAh (aP5 G.f332 G.f349 G.f368 l hl js (by omega)) ?_
   rintro v L4 nx4 ⟨⟨u,rfl,hu⟩,s4,f4⟩
   have n4:=f4.1
   refine ⟨f4.2 _ (by omega) (by omega),?_⟩
   refine aAa (t345 G.f345) (by simp only [push_cast,seval,-Nat.reducePow]) (by simp only [push_cast,seval,-Nat.reducePow,aB9,tV,tCs,List.map_cons,List.map_nil]) ?_
   have hi8:i<aB9.length:=by have:aB9.length=8:=rfl; omega
   obtain ⟨t,ht⟩:∃ t,t=aB9[i]:=⟨_,rfl⟩
   have htt:ttT t:=by rw [ht]; exact List.getElem_mem hi8
   have hg:(aB9.map tV).getD i .junk=.agg [.int .i64 t.1,.str t.2]:=by
    rw [List.getD_eq_getElem?_getD,List.getElem?_eq_getElem (by simpa using hi8),ht]; simp [tV,tCs]
   simp only [push_cast,seval,-Nat.reducePow,j2,j3,j4,j5,j6,hg]
   refine ⟨by simpa using hi8,aAh (aPs G.f369 G.f370 G.f349 G.f368 l hl s4 (by omega)) ?_⟩
   rintro v L5 nx5 ⟨⟨te,rfl,hte⟩,s6,f5⟩
   have n5:=f5.1
   refine ⟨f5.2 _ (by omega) (by omega),?_⟩
   have c4:L5 b=some (boxS T st):=by rw [f5.2 _ (by omega) (by omega),f4.2 _ (by omega) (by omega),e4]
   have c2:L5 (nx+2)=some (.box (T 34) [V.int IntKind.i64 0,V.int IntKind.i64 0,V.nils,V.nils,V.nils,V.int IntKind.i64 0,V.nils,V.nils]):=by rw [f5.2 _ (by omega) (by omega),f4.2 _ (by omega) (by omega),e2]
   have hch:∀ c,c∈[(⟨1,u,[],t,zTtl,te,0,[]⟩:Chg)]→ChgP usT ttT c:=fun c hc=>by rw [List.mem_singleton.1 hc]; exact aVq hu htt (by omega)
   have hap:=aGd H hpw (pol:=fun _=>true) q2 hch (by simp) (by simp; omega) (by simp) (by omega)
   simp only [push_cast,seval,-Nat.reducePow,j2,j3,j4,j5,j6]
   refine aF0 hap ?_ ?_ (aF9 _) ?_
   ·simp only [List.map_cons,List.map_nil,Stt.v,Stt.cs,Chg.v,Chg.cs,stoV,pplV,watV,lasV,revV,zTtl,aJa,aKa,aDe,aEz,aIf,V.le_refl,and_self]
   ·simp only [V.imm,V.imms,aAg,aAl,aAo,aAn,Bool.and_true,Bool.true_and]
   have u4:∀ x y,upd (upd L5 (nx5+7) x) (nx5+7) y b=some (boxS T st):=fun x y=>by rw [aAd _ _ _ _ (by omega),aAd _ _ _ _ (by omega)]; exact c4
   have u2:∀ x y,upd (upd L5 (nx5+7) x) (nx5+7) y (nx+2)=some (.box (T 34) [V.int IntKind.i64 0,V.int IntKind.i64 0,V.nils,V.nils,V.nils,V.int IntKind.i64 0,V.nils,V.nils]):=fun x y=>by rw [aAd _ _ _ _ (by omega),aAd _ _ _ _ (by omega)]; exact c2
   cases hr:(aCo ok (fun _=>true) st [(⟨1,u,[],t,zTtl,te,0,[]⟩:Chg)]) with
   | mk st' e =>
     by_cases he:e=0
     ·subst he
      obtain ⟨m1,m2⟩:=aHx H.ntt H.hred q2 hch (by simp; omega) hr
      simp only [aplV,if_true,outS,Stt.v,Stt.cs,stoV,pplV,watV,lasV,push_cast,seval,-Nat.reducePow,j2,j3,j4,j5,j6,u2,u4]
      refine ⟨⟨by omega,by omega⟩,(3+k).toNat-(i+1),by omega,i+1,st',by omega,rfl,?_,by omega,by simp,by omega,?_,?_,((s6.put (by omega)).put (by omega)).put (by omega),fun x hx=>?_⟩
      ·rw [show 1+(i+1)=1+i+1 from by omega]; exact m1
      ·rw [aAd _ _ _ _ (by omega)]; exact u2 _ _
      ·first | rfl | (rw [aAe])
      ·rw [aAd _ _ _ _ (by omega),aAd _ _ _ _ (by omega),aAd _ _ _ _ (by omega),f5.2 x (by omega) (by omega),f4.2 x (by omega) (by omega)]
       exact jf x hx
     ·simp only [aplV,if_neg he,push_cast,seval,-Nat.reducePow,j2,j3,j4,j5,j6,u2,u4,he]
      refine ⟨⟨by omega,by omega⟩,(3+k).toNat-(i+1),by omega,i+1,st,by omega,rfl,?_,by omega,by simp,by omega,rfl,(s6.put (by omega)).put (by omega),fun x hx=>?_⟩
      ·rw [show 1+(i+1)=1+i+1 from by omega]; exact q2.up
      ·rw [aAd _ _ _ _ (by omega),aAd _ _ _ _ (by omega),f5.2 x (by omega) (by omega),f4.2 x (by omega) (by omega)]
       exact jf x hx
  ·simp only [push_cast,seval,-Nat.reducePow,j2,j3,j4,j5,j6,e2,e4]
   refine aAh (aCp G.f349 G.f368 7 (by decide) (by decide) l hl js (by omega)) ?_
   rintro v L4 nx4 ⟨⟨k2,rfl,k20,k21⟩,s4,f4⟩
   have n4:=f4.1
   refine ⟨f4.2 _ (by omega) (by omega),?_⟩
   have hga:=fun {L:Heap} {nx:Nat}=>bD4 ha G H hpw (1+i) k2 st q2 (by omega) k20 (by omega) l hl (L:=L) (nx:=nx) (p:=p)
   simp only [Stt.v,Stt.cs,stoV,pplV,watV,lasV] at hga
   refine aAh (hga s4 (by omega)) ?_
   rintro v L5 nx5 ⟨⟨st',rfl,hm',hq'⟩,s6,f5⟩
   have n5:=f5.1
   have c2:L5 (nx+2)=some (.box (T 34) [V.int IntKind.i64 0,V.int IntKind.i64 0,V.nils,V.nils,V.nils,V.int IntKind.i64 0,V.nils,V.nils]):=by rw [f5.2 _ (by omega) (by omega),f4.2 _ (by omega) (by omega),e2]
   simp only [push_cast,seval,-Nat.reducePow,Stt.v,Stt.cs,stoV,pplV,watV,lasV,j2,j3,j4,j5,j6,c2]
   refine ⟨by omega,⟨w,hw,st',rfl,hm',hq'⟩,by omega,fun x hx=>?_⟩
   rw [aAd _ _ _ _ (by omega),f5.2 x (by omega) (by omega),f4.2 x (by omega) (by omega)]
   exact jf x hx
end Go.Ab
