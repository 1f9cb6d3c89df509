/- Lowered code for the evaluator, by program. No condition. -/
import Derived.Test.YtikmbicdjpkipaaGreatDoorAbY1
set_option linter.unusedVariables false
namespace Go.Ab
def e8:C :=
 .n [.mov (some 0) (.k (.bool false))] <|
 .n [.build (some 10) [(.int .i64 0),(.str [])] [(1,1,(.s [65]))],.build (some 11) [(.int .i64 0),(.str [])] [(1,1,(.s [66]))],.alloc 1 29 [(.int .i64 0),(.str [])],.alloc 2 29 [(.int .i64 0),(.str [])],.store 2 (.t 1) (.t 10),.store 2 (.t 2) (.t 11)] <|
 .n [.c 12 33 [],.alloc 3 27 [(.int .i64 0),(.int .i64 0),.nils,.nils,.nils,(.int .i64 0),.nils,.nils],.store 8 (.t 3) (.t 12)] <|
 .n [.load (some 14) false 8 true (.t 3),.load (some 15) false 2 true (.t 1),.load (some 16) false 2 true (.t 2),.c 17 23 [.t 14,.s [97,110,110],.t 15,.t 16,(.k (.bool true))],.m 13 17,.x 18 0 13,.x 19 1 13,.m 4 18,.m 5 19] <|
 .n [.load (some 21) false 8 true (.t 3),.m 22 4,.c 23 22 [.t 21,.t 22],.m 20 23,.x 24 0 20,.x 25 1 20,.alloc 6 27 [(.int .i64 0),(.int .i64 0),.nils,.nils,.nils,(.int .i64 0),.nils,.nils],.store 8 (.t 6) (.t 24),.m 7 25] <|
 .n [.load (some 27) false 8 true (.t 6),.load (some 28) false 2 true (.t 1),.load (some 29) false 2 true (.t 2),.c 30 23 [.t 27,.s [97,110,110],.t 28,.t 29,(.k (.bool false))],.m 26 30,.x 31 0 26,.x 32 1 26,.m 8 31,.m 9 32] <|
 .seq (.ops false [⟨none,[.m 33 5,.bi 34 .eql 33 0,.m 35 34]⟩,
  ⟨some (35,true),[.m 36 7,.bi 37 .eql 36 0]⟩,
  ⟨none,[.pf 38 35 37,.m 39 38]⟩,
  ⟨some (39,true),[.f 40 2 6,.l 41 40,.ll 42 41,.bi 43 .eql 42 3]⟩,
  ⟨none,[.pf 44 39 43,.m 45 44]⟩,
  ⟨some (45,true),[.m 46 9,.bi 47 .eql 46 5]⟩,
  ⟨none,[.pf 48 45 47,.m 49 48]⟩,
  ⟨some (49,true),[.load (some 50) false 8 true (.t 6),.load (some 51) false 2 true (.t 2),.c 52 13 [.t 50,.s [97,110,110],.t 51],.ll 53 52,.bi 54 .eql 53 1]⟩,
  ⟨none,[.pf 55 49 54,.m 0 55]⟩]) <|
 .ret
def e11:C :=
 .n [.mov (some 4) (.i 0)] <|
 .n [.m 6 0,.m 7 1,.b 8 .rem 6 7,.m 5 8] <|
 .seq (.n [.m 9 5,.bi 10 .lss 9 0] <|
 .cond (.t 10)
  (.o [.m 11 5,.m 12 1,.b 13 .add 11 12,.m 5 13])
  (.skip)) <|
 .n [.m 14 5,.m 4 14] <|
 .ret
def e13:C :=
 .n [.box 3 27 (.t 0),.box 5 29 (.t 2),.mov (some 6) (.k .nils)] <|
 .n [.load (some 11) false 8 true (.t 3),.load (some 12) false 2 true (.t 5),.e 13 37 39 [.t 11,.t 12],.m 10 13,.x 14 0 10,.x 15 1 10,.alloc 7 71 [(.int .i64 0),(.str []),.nils],.store 3 (.t 7) (.t 14),.m 8 15] <|
 .seq (.seq (.p [.load (some 16) false 8 true (.t 3),.m 17 1,.c 18 40 [.t 16,.t 17],.load (some 19) false 2 true (.t 5),.mkl (some 20) 1 [.i 1],.c 21 41 [.t 18,.t 19,.t 20],.un (some 22) .not (.t 21)]) <|
 .cond (.t 22)
  (.n [.mov (some 6) (.k .nils)] <|
  .ret)
  (.skip)) <|
 .seq (.n [.f 23 2 7,.l 24 23,.ll 25 24,.mov (some 26) (.i 0)] <|
 .block 0 <|
  .loop <|
   .n [.b 27 .lss 26 25] <|
   .seq (.cond (.t 27)
    (.skip)
    (.exit 0)) <|
   .seq (.block 1 <|
    .n [.m 28 26,.m 9 28] <|
    .o [.f 29 2 7,.l 30 29,.m 31 9,.ia 32 6 30 31,.f 33 5 32,.store 1 (.t 33) (.i 0)]) <|
   .o [.bi 34 .add 26 1,.m 26 34]) <|
 .n [.f 35 2 7,.l 36 35,.m 6 36] <|
 .ret
def e16:C :=
 .n [.mov (some 2) (.k .nilp)] <|
 .n [.m 5 0,.build (some 6) [.nils,(.int .i64 0),(.int .u64 0)] [(0,1,(.t 5)),(2,1,(.k (.int .u64 11400714819323198485)))],.box 7 96 (.t 6),.m 3 7] <|
 .seq (.n [.mov (some 4) (.i 0)] <|
 .block 0 <|
  .loop <|
   .seq (.seq (.ops false [⟨none,[.m 8 4,.m 9 0,.ll 10 9,.b 11 .lss 8 10,.m 12 11]⟩,
    ⟨some (12,true),[.m 13 4,.bi 14 .lss 13 64]⟩,
    ⟨none,[.pf 15 12 14]⟩]) <|
   .cond (.t 15)
    (.skip)
    (.exit 0)) <|
   .seq (.block 1 <|
    .seq (.p [.m 18 3,.m 19 3,.nchk (some 20) (.t 19),.f 21 2 20,.l 22 21,.m 23 0,.m 24 4,.ia 25 1 23 24,.l 26 25,.cvt (some 27) .u64 (.t 26),.b 28 .xor 22 27,.bin (some 29) .mul (.t 28) (.k (.int .u64 18397679294719823053)),.nchk (some 30) (.t 18),.f 31 2 30,.store 1 (.t 31) (.t 29)]) <|
    .p [.m 32 3,.m 33 3,.nchk (some 34) (.t 33),.f 35 2 34,.l 36 35,.m 37 3,.nchk (some 38) (.t 37),.f 39 2 38,.l 40 39,.bin (some 41) .shr (.t 40) (.k (.int .u64 33)),.b 42 .xor 36 41,.nchk (some 43) (.t 32),.f 44 2 43,.store 1 (.t 44) (.t 42)]) <|
   .o [.m 16 4,.bi 17 .add 16 1,.m 4 17]) <|
 .n [.m 45 3,.m 2 45] <|
 .ret
def e21:C :=
 .n [.box 2 53 (.t 0),.mov (some 4) (.k .nils)] <|
 .n [.mkl (some 8) 1 [.s [97,108,108]],.m 5 8] <|
 .seq (.n [.m 9 1,.c 10 51 [.t 9]] <|
 .cond (.t 10)
  (.o [.m 11 5,.c 12 52 [.t 11,.s [117,115,101,114,115]],.m 5 12])
  (.skip)) <|
 .seq (.n [.mov (some 6) (.k (.int .i64 (-1)))] <|
 .block 0 <|
  .loop <|
   .seq (.n [.m 13 6,.m 14 5,.ll 15 14,.b 16 .lss 13 15] <|
   .cond (.t 16)
    (.skip)
    (.exit 0)) <|
   .block 1 <|
    .n [.m 17 5,.ll 18 17,.m 6 18] <|
    .n [.mov (some 7) (.i 0)] <|
    .block 2 <|
     .loop <|
      .seq (.n [.m 19 7,.f 20 0 2,.l 21 20,.ll 22 21,.b 23 .lss 19 22] <|
      .cond (.t 23)
       (.skip)
       (.exit 2)) <|
      .seq (.block 3 <|
       .n [.f 26 0 2,.l 27 26,.m 28 7,.ia 29 2 27 28,.load (some 30) false 2 true (.t 29),.m 31 1,.m 32 5,.c 33 53 [.t 30,.t 31,.t 32]] <|
       .cond (.t 33)
        (.o [.m 34 5,.f 35 0 2,.l 36 35,.m 37 7,.ia 38 2 36 37,.f 39 0 38,.l 40 39,.c 41 52 [.t 34,.t 40],.m 5 41])
        (.skip)) <|
      .o [.m 24 7,.bi 25 .add 24 1,.m 7 25]) <|
 .n [.m 42 5,.m 4 42] <|
 .ret
def e22:C :=
 .n [.box 2 27 (.t 0),.alloc 4 27 [(.int .i64 0),(.int .i64 0),.nils,.nils,.nils,(.int .i64 0),.nils,.nils],.mov (some 5) (.i 0)] <|
 .seq (.n [.load (some 11) false 8 true (.t 2),.c 12 54 [.t 11],.un (some 13) .not (.t 12)] <|
 .cond (.t 13)
  (.n [.build (some 14) [(.int .i64 0),(.int .i64 0),.nils,.nils,.nils,(.int .i64 0),.nils,.nils] [],.store 8 (.t 4) (.t 14),.mov (some 5) (.i 11)] <|
  .ret)
  (.skip)) <|
 .seq (.seq (.ops false [⟨none,[.m 15 1,.ll 16 15,.bi 17 .lss 16 1,.m 18 17]⟩,
  ⟨some (18,false),[.m 19 1,.ll 20 19,.bi 21 .gtr 20 16]⟩,
  ⟨none,[.pt 22 18 21]⟩]) <|
 .cond (.t 22)
  (.n [.build (some 23) [(.int .i64 0),(.int .i64 0),.nils,.nils,.nils,(.int .i64 0),.nils,.nils] [],.store 8 (.t 4) (.t 23),.mov (some 5) (.i 2)] <|
  .ret)
  (.skip)) <|
 .n [.f 24 0 2,.l 25 24,.bi 26 .add 25 1,.m 6 26] <|
 .seq (.n [.mov (some 7) (.i 0)] <|
 .block 0 <|
  .loop <|
   .seq (.n [.m 27 7,.m 28 1,.ll 29 28,.b 30 .lss 27 29] <|
   .cond (.t 30)
    (.skip)
    (.exit 0)) <|
   .seq (.block 1 <|
    .seq (.n [.m 33 1,.m 34 7,.ia 35 10 33 34,.load (some 36) false 10 true (.t 35),.c 37 55 [.t 36],.m 8 37] <|
    .n [.m 38 8,.bi 39 .neq 38 0] <|
    .cond (.t 39)
     (.n [.build (some 40) [(.int .i64 0),(.int .i64 0),.nils,.nils,.nils,(.int .i64 0),.nils,.nils] [],.m 41 8,.store 8 (.t 4) (.t 40),.m 5 41] <|
     .ret)
     (.skip)) <|
    .seq (.p [.load (some 43) false 8 true (.t 2),.m 44 1,.m 45 7,.ia 46 10 44 45,.load (some 47) false 10 true (.t 46),.m 48 6,.c 49 56 [.t 43,.t 47,.t 48],.m 42 49,.x 50 0 42,.x 51 1 42,.alloc 9 27 [(.int .i64 0),(.int .i64 0),.nils,.nils,.nils,(.int .i64 0),.nils,.nils],.store 8 (.t 9) (.t 50),.m 10 51]) <|
    .seq (.n [.m 52 10,.bi 53 .neq 52 0] <|
    .cond (.t 53)
     (.n [.build (some 54) [(.int .i64 0),(.int .i64 0),.nils,.nils,.nils,(.int .i64 0),.nils,.nils] [],.m 55 10,.store 8 (.t 4) (.t 54),.m 5 55] <|
     .ret)
     (.skip)) <|
    .seq (.n [.m 56 1,.m 57 7,.ia 58 10 56 57,.load (some 59) false 10 true (.t 58),.c 60 57 [.t 59]] <|
    .cond (.t 60)
     (.n [.build (some 61) [(.int .i64 0),(.int .i64 0),.nils,.nils,.nils,(.int .i64 0),.nils,.nils] [],.store 8 (.t 4) (.t 61),.mov (some 5) (.i 7)] <|
     .ret)
     (.skip)) <|
    .seq (.p [.load (some 63) false 8 true (.t 9),.m 64 1,.m 65 7,.ia 66 10 64 65,.f 67 1 66,.l 68 67,.m 69 6,.c 70 58 [.t 63,.t 68,.t 69],.m 62 70,.x 71 0 62,.x 72 1 62,.store 8 (.t 2) (.t 71),.m 10 72]) <|
    .n [.m 73 10,.bi 74 .neq 73 0] <|
    .cond (.t 74)
     (.n [.build (some 75) [(.int .i64 0),(.int .i64 0),.nils,.nils,.nils,(.int .i64 0),.nils,.nils] [],.m 76 10,.store 8 (.t 4) (.t 75),.m 5 76] <|
     .ret)
     (.skip)) <|
   .o [.m 31 7,.bi 32 .add 31 1,.m 7 32]) <|
 .seq (.n [.m 77 6,.bi 78 .gtr 77 1073741824] <|
 .cond (.t 78)
  (.n [.build (some 79) [(.int .i64 0),(.int .i64 0),.nils,.nils,.nils,(.int .i64 0),.nils,.nils] [],.store 8 (.t 4) (.t 79),.mov (some 5) (.i 8)] <|
  .ret)
  (.skip)) <|
 .n [.m 80 6,.f 81 0 2,.store 1 (.t 81) (.t 80)] <|
 .n [.load (some 82) false 8 true (.t 2),.store 8 (.t 4) (.t 82),.mov (some 5) (.i 0)] <|
 .ret
def e23:C :=
 .n [.box 5 27 (.t 0),.box 7 29 (.t 2),.box 8 29 (.t 3),.mov (some 10) (.k .nils),.mov (some 11) (.i 0)] <|
 .seq (.seq (.ops false [⟨none,[.load (some 19) false 2 true (.t 7),.c 20 59 [.t 19],.un (some 21) .not (.t 20),.m 22 21]⟩,
  ⟨some (22,false),[.load (some 23) false 2 true (.t 8),.c 24 59 [.t 23],.un (some 25) .not (.t 24)]⟩,
  ⟨none,[.pt 26 22 25,.m 27 26]⟩,
  ⟨some (27,false),[.m 28 1,.c 29 60 [.t 28],.un (some 30) .not (.t 29)]⟩,
  ⟨none,[.pt 31 27 30]⟩]) <|
 .cond (.t 31)
  (.n [.mov (some 10) (.k .nils),.mov (some 11) (.i 2)] <|
  .ret)
  (.skip)) <|
 .n [.load (some 32) false 8 true (.t 5),.m 33 1,.c 34 40 [.t 32,.t 33],.alloc 12 90 [.nils,.nils,.nils,.nils],.store 4 (.t 12) (.t 34)] <|
 .n [.load (some 36) false 8 true (.t 5),.load (some 37) false 2 true (.t 7),.c 38 61 [.t 36,.t 37],.m 35 38,.x 39 0 35,.x 40 1 35,.m 13 39,.m 14 40] <|
 .n [.load (some 42) false 8 true (.t 5),.load (some 43) false 2 true (.t 8),.c 44 61 [.t 42,.t 43],.m 41 44,.x 45 0 41,.x 46 1 41,.m 15 45,.m 16 46] <|
 .n [.m 47 1,.load (some 48) false 2 true (.t 7),.load (some 49) false 2 true (.t 8),.build (some 50) [(.int .i64 0),(.str []),(.str []),(.int .i64 0),(.str []),(.int .i64 0),(.str []),(.str []),(.int .i64 0),.nils] [(0,1,(.i 4)),(1,1,(.t 47)),(3,2,(.t 48)),(5,2,(.t 49))],.alloc 17 61 [(.int .i64 0),(.str []),(.str []),(.int .i64 0),(.str []),(.int .i64 0),(.str []),(.str []),(.int .i64 0),.nils],.store 10 (.t 17) (.t 50)] <|
 .n [.mov (some 18) (.s [])] <|
 .seq (.n [.m 51 4] <|
 .cond (.t 51)
  (.o [.load (some 52) false 2 true (.t 8),.c 53 62 [.t 52],.bin (some 54) .add (.s [35,82,69,68,73,82,69,67,84,32,91,91]) (.t 53),.bin (some 55) .add (.t 54) (.s [93,93]),.f 56 8 17,.store 1 (.t 56) (.i 1),.m 18 55])
  (.skip)) <|
 .seq (.block 0 <|
  .seq (.ops false [⟨none,[.load (some 58) false 4 true (.t 12),.load (some 59) false 2 true (.t 7),.mkl (some 60) 1 [.i 1,.i 3],.c 61 41 [.t 58,.t 59,.t 60],.un (some 62) .not (.t 61),.m 63 62]⟩,
   ⟨some (63,false),[.load (some 64) false 4 true (.t 12),.load (some 65) false 2 true (.t 8),.mkl (some 66) 1 [.i 1,.i 2],.c 67 41 [.t 64,.t 65,.t 66],.un (some 68) .not (.t 67)]⟩,
   ⟨none,[.pt 69 63 68,.m 57 69]⟩]) <|
  .cond (.t 57)
   (.n [.mov (some 10) (.k .nils),.mov (some 11) (.i 10)] <|
   .ret)
   (.n [.m 71 14,.un (some 72) .not (.t 71),.m 70 72] <|
   .cond (.t 70)
    (.n [.mov (some 10) (.k .nils),.mov (some 11) (.i 4)] <|
    .ret)
    (.n [.m 74 16,.m 73 74] <|
    .cond (.t 73)
     (.n [.mov (some 10) (.k .nils),.mov (some 11) (.i 5)] <|
     .ret)
     (.seq (.ops false [⟨none,[.load (some 76) false 2 true (.t 7),.load (some 77) false 2 true (.k (.cptr [(.int .i64 5),(.str [80,111,108,105,99,121])])),.eqA (some 78) false [0,1] (.t 76) (.t 77),.m 79 78]⟩,
      ⟨some (79,false),[.load (some 80) false 2 true (.t 8),.load (some 81) false 2 true (.k (.cptr [(.int .i64 5),(.str [80,111,108,105,99,121])])),.eqA (some 82) false [0,1] (.t 80) (.t 81)]⟩,
      ⟨none,[.pt 83 79 82,.m 75 83]⟩]) <|
     .cond (.t 75)
      (.n [.mov (some 10) (.k .nils),.mov (some 11) (.i 7)] <|
      .ret)
      (.seq (.ops false [⟨none,[.load (some 85) false 4 true (.t 12),.load (some 86) false 2 true (.t 7),.m 87 13,.m 88 18,.c 89 63 [.t 85,.t 86,.t 87,.t 88],.un (some 90) .not (.t 89),.m 91 90]⟩,
       ⟨some (91,false),[.load (some 92) false 4 true (.t 12),.load (some 93) false 2 true (.t 8),.m 94 13,.c 95 63 [.t 92,.t 93,.s [],.t 94],.un (some 96) .not (.t 95)]⟩,
       ⟨none,[.pt 97 91 96,.m 84 97]⟩]) <|
      .cond (.t 84)
       (.n [.mov (some 10) (.k .nils),.mov (some 11) (.i 10)] <|
       .ret)
       (.skip)))))) <|
 .n [.load (some 98) false 10 true (.t 17),.mkl (some 99) 10 [.t 98],.m 10 99,.mov (some 11) (.i 0)] <|
 .ret
def e28:C :=
 .n [.alloc 0 29 [(.int .i64 0),(.str [])]] <|
 .n [.build (some 1) [(.int .i64 0),(.str [])] [(0,1,(.i 5)),(1,1,(.s [80,111,108,105,99,121]))],.store 2 (.t 0) (.t 1)] <|
 .ret
def e30:C :=
 .n [.box 1 27 (.t 0),.alloc 2 53 [.nils,.nils,.nils]] <|
 .n [.load (some 9) false 8 true (.t 1),.load (some 10) false 2 true (.k (.cptr [(.int .i64 5),(.str [80,111,108,105,99,121])])),.e 11 29 39 [.t 9,.t 10],.m 8 11,.x 12 0 8,.x 13 1 8,.alloc 3 71 [(.int .i64 0),(.str []),.nils],.store 3 (.t 3) (.t 12),.m 4 13] <|
 .seq (.n [.m 14 4,.un (some 15) .not (.t 14)] <|
 .cond (.t 15)
  (.n [.build (some 16) [.nils,.nils,.nils] [],.store 3 (.t 2) (.t 16)] <|
  .ret)
  (.skip)) <|
 .n [.load (some 18) false 3 true (.t 3),.call (some 19) false 72 [.t 18],.field (some 20) 3 1 false (.t 19),.c 21 71 [.t 20],.m 17 21,.x 22 0 17,.x 23 1 17,.x 24 2 17,.alloc 5 53 [.nils,.nils,.nils],.store 3 (.t 5) (.t 22),.m 6 23,.m 7 24] <|
 .seq (.n [.m 25 7,.bi 26 .neq 25 0] <|
 .cond (.t 26)
  (.n [.build (some 27) [.nils,.nils,.nils] [],.store 3 (.t 2) (.t 27)] <|
  .ret)
  (.skip)) <|
 .n [.load (some 28) false 3 true (.t 5),.store 3 (.t 2) (.t 28)] <|
 .ret
def e33:C :=
 .n [.alloc 0 27 [(.int .i64 0),(.int .i64 0),.nils,.nils,.nils,(.int .i64 0),.nils,.nils]] <|
 .n [.mkl (some 4) 1 [.i 0],.e 5 15 16 [.t 4],.e 6 15 35 [.t 5],.c 7 34 [.t 6],.build (some 8) [(.int .i64 0),(.str [])] [(1,1,(.s [65]))],.build (some 9) [(.int .i64 0),(.str []),(.str []),(.int .i64 0),(.str []),(.int .i64 0),(.str []),(.str []),(.int .i64 0),.nils] [(0,1,(.i 1)),(3,2,(.t 8)),(7,1,(.s [120]))],.mkl (some 10) 10 [.t 9],.c 11 22 [.t 7,.t 10],.m 3 11,.x 12 0 3,.x 13 1 3,.alloc 1 27 [(.int .i64 0),(.int .i64 0),.nils,.nils,.nils,(.int .i64 0),.nils,.nils],.store 8 (.t 1) (.t 12),.m 2 13] <|
 .n [.load (some 14) false 8 true (.t 1),.store 8 (.t 0) (.t 14)] <|
 .ret
def e34:C :=
 .n [.alloc 2 27 [(.int .i64 0),(.int .i64 0),.nils,.nils,.nils,(.int .i64 0),.nils,.nils]] <|
 .n [.build (some 6) [(.int .i64 0),(.int .i64 0),.nils,.nils,.nils,(.int .i64 0),.nils,.nils] [],.c 7 28 [],.m 8 0,.build (some 9) [(.int .i64 0),(.str []),(.str []),(.int .i64 0),(.str []),(.int .i64 0),(.str []),(.str []),(.int .i64 0),.nils] [(0,1,(.i 1)),(3,2,(.t 7)),(7,1,(.t 8))],.mkl (some 10) 10 [.t 9],.c 11 22 [.t 6,.t 10],.m 5 11,.x 12 0 5,.x 13 1 5,.alloc 3 27 [(.int .i64 0),(.int .i64 0),.nils,.nils,.nils,(.int .i64 0),.nils,.nils],.store 8 (.t 3) (.t 12),.m 4 13] <|
 .n [.load (some 14) false 8 true (.t 3),.store 8 (.t 2) (.t 14)] <|
 .ret
def e35:C :=
 .n [.mov (some 2) (.s [])] <|
 .n [.build (some 3) [(.str []),(.str []),(.str []),(.str []),(.str []),(.str []),(.str []),(.str [])] [(0,1,(.s [97,108,108,111,119,32,114,101,97,100,32,97,108,108,32,60,97,108,108,62,10,97,108,108,111,119,32,101,100,105,116,32,97,108,108,32,60,97,108,108,62,10,97,108,108,111,119,32,109,111,118,101,32,97,108,108,32,60,97,108,108,62,10,97,108,108,111,119,32,100,101,108,101,116,101,32,97,108,108,32,60,97,108,108,62,10,97,108,108,111,119,32,114,101,118,105,101,119,32,97,108,108,32,60,97,108,108,62,10])),(1,1,(.s [97,108,108,111,119,32,114,101,97,100,32,97,108,108,32,60,97,108,108,62,10,97,108,108,111,119,32,101,100,105,116,32,97,108,108,32,60,97,108,108,62,10,97,108,108,111,119,32,109,111,118,101,32,97,108,108,32,60,97,108,108,62,10,97,108,108,111,119,32,100,101,108,101,116,101,32,97,108,108,32,60,97,108,108,62,10,97,108,108,111,119,32,114,101,118,105,101,119,32,97,108,108,32,60,97,108,108,62,10,103,114,111,117,112,32,115,116,97,102,102,32,97,110,110,10,100,101,110,121,32,114,101,97,100,32,97,108,108,32,65,10,97,108,108,111,119,32,114,101,97,100,32,115,116,97,102,102,32,65,47,67,10])),(2,1,(.s [97,108,108,111,119,32,114,101,97,100,32,97,108,108,32,60,97,108,108,62,10,97,108,108,111,119,32,101,100,105,116,32,97,108,108,32,60,97,108,108,62,10,97,108,108,111,119,32,109,111,118,101,32,97,108,108,32,60,97,108,108,62,10,97,108,108,111,119,32,100,101,108,101,116,101,32,97,108,108,32,60,97,108,108,62,10,97,108,108,111,119,32,114,101,118,105,101,119,32,97,108,108,32,60,97,108,108,62,10,103,114,111,117,112,32,115,116,97,102,102,32,97,110,110,10,103,117,97,114,100,32,115,116,97,102,102,32,65,32,124,32,83,10,115,116,114,105,99,116,32,115,116,97,102,102,32,84,101,109,112,108,97,116,101,58,84,10,103,117,97,114,100,32,115,116,97,102,102,32,66,10])),(3,1,(.s [103,114,111,117,112,32,115,116,97,102,102,32,97,110,110,32,64,109,111,114,101,10,103,114,111,117,112,32,109,111,114,101,32,98,111,98,10,97,108,108,111,119,32,114,101,97,100,32,97,108,108,32,60,77,97,105,110,62,10,97,108,108,111,119,32,114,101,97,100,32,97,108,108,32,60,84,101,109,112,108,97,116,101,62,10,97,108,108,111,119,32,114,101,97,100,32,97,108,108,32,60,67,97,116,101,103,111,114,121,62,10,97,108,108,111,119,32,101,100,105,116,32,117,115,101,114,115,32,60,77,97,105,110,62,10,97,108,108,111,119,32,101,100,105,116,32,115,116,97,102,102,32,60,67,97,116,101,103,111,114,121,62,10,97,108,108,111,119,32,114,101,118,105,101,119,32,115,116,97,102,102,32,60,97,108,108,62,10,97,108,108,111,119,32,109,111,118,101,32,115,116,97,102,102,32,60,97,108,108,62,10,97,108,108,111,119,32,100,101,108,101,116,101,32,115,116,97,102,102,32,60,97,108,108,62,10,97,108,108,111,119,32,114,101,97,100,32,115,116,97,102,102,32,60,97,108,108,62,10,97,108,108,111,119,32,101,100,105,116,32,115,116,97,102,102,32,60,97,108,108,62,10])),(4,1,(.s [97,108,108,111,119,32,114,101,97,100,32,97,108,108,32,60,97,108,108,62,10,97,108,108,111,119,32,101,100,105,116,32,97,108,108,32,60,97,108,108,62,10,97,108,108,111,119,32,109,111,118,101,32,97,108,108,32,60,97,108,108,62,10,97,108,108,111,119,32,100,101,108,101,116,101,32,97,108,108,32,60,97,108,108,62,10,97,108,108,111,119,32,114,101,118,105,101,119,32,97,108,108,32,60,97,108,108,62,10,100,101,110,121,32,114,101,97,100,32,97,108,108,32,66,10,100,101,110,121,32,114,101,97,100,32,97,108,108,32,67,97,116,101,103,111,114,121,58,89,10])),(5,1,(.s [97,108,108,111,119,32,114,101,97,100,32,97,108,108,32,60,97,108,108,62,10,97,108,108,111,119,32,101,100,105,116,32,97,108,108,32,60,97,108,108,62,10,97,108,108,111,119,32,109,111,118,101,32,97,108,108,32,60,97,108,108,62,10,97,108,108,111,119,32,100,101,108,101,116,101,32,97,108,108,32,60,97,108,108,62,10,97,108,108,111,119,32,114,101,118,105,101,119,32,97,108,108,32,60,97,108,108,62,10,100,101,110,121,32,101,100,105,116,32,97,108,108,32,66,10,100,101,110,121,32,114,101,97,100,32,117,115,101,114,115,32,68,10])),(6,1,(.s [97,108,108,111,119,32,114,101,97,100,32,97,108,108,32,60,97,108,108,62,10,97,108,108,111,119,32,101,100,105,116,32,97,108,108,32,60,97,108,108,62,10,97,108,108,111,119,32,109,111,118,101,32,97,108,108,32,60,97,108,108,62,10,97,108,108,111,119,32,100,101,108,101,116,101,32,97,108,108,32,60,97,108,108,62,10,97,108,108,111,119,32,114,101,118,105,101,119,32,97,108,108,32,60,97,108,108,62,10])),(7,1,(.s [97,108,108,111,119,32,114,101,97,100,32,97,108,108,32,60,97,108,108,62,10,97,108,108,111,119,32,101,100,105,116,32,97,108,108,32,60,97,108,108,62,10,97,108,108,111,119,32,109,111,118,101,32,97,108,108,32,60,97,108,108,62,10,97,108,108,111,119,32,100,101,108,101,116,101,32,97,108,108,32,60,97,108,108,62,10,97,108,108,111,119,32,114,101,118,105,101,119,32,97,108,108,32,60,97,108,108,62,10,103,114,111,117,112,32,115,116,97,102,102,32,97,110,110,10,100,101,110,121,32,114,101,118,105,101,119,32,97,108,108,32,60,97,108,108,62,10,97,108,108,111,119,32,114,101,118,105,101,119,32,115,116,97,102,102,32,60,77,97,105,110,62,10,103,117,97,114,100,32,115,116,97,102,102,32,65,10,103,117,97,114,100,32,115,116,97,102,102,32,68,10]))],.m 4 0,.e 5 7 36 [.t 4,.i 8],.idxA (some 6) 8 1 false (.t 3) (.t 5),.m 2 6] <|
 .ret
def e36:C :=
 .n [.mov (some 4) (.i 0)] <|
 .seq (.seq (.p [.m 5 0,.nchk (some 6) (.t 5),.f 7 1 6,.l 8 7,.m 9 0,.nchk (some 10) (.t 9),.f 11 0 10,.l 12 11,.ll 13 12,.b 14 .lss 8 13]) <|
 .cond (.t 14)
  (.n [.m 15 0,.nchk (some 16) (.t 15),.f 17 1 16,.l 18 17,.bi 19 .add 18 1,.nchk (some 20) (.t 15),.f 21 1 20,.store 1 (.t 21) (.t 19)] <|
  .seq (.p [.m 22 0,.nchk (some 23) (.t 22),.f 24 0 23,.l 25 24,.m 26 0,.nchk (some 27) (.t 26),.f 28 1 27,.l 29 28,.bi 30 .sub 29 1,.ia 31 1 25 30,.l 32 31,.m 33 1,.c 34 11 [.t 32,.t 33],.m 4 34]) <|
  .ret)
  (.skip)) <|
 .n [.m 35 0,.m 36 0,.nchk (some 37) (.t 36),.f 38 2 37,.l 39 38,.bin (some 40) .mul (.t 39) (.k (.int .u64 6364136223846793005)),.bin (some 41) .add (.t 40) (.k (.int .u64 1442695040888963407)),.nchk (some 42) (.t 35),.f 43 2 42,.store 1 (.t 43) (.t 41)] <|
 .n [.m 44 0,.nchk (some 45) (.t 44),.f 46 2 45,.l 47 46,.bin (some 48) .shr (.t 47) (.k (.int .u64 33)),.m 49 1,.cvt (some 50) .u64 (.t 49),.b 51 .rem 48 50,.cvt (some 52) .i64 (.t 51),.m 4 52] <|
 .ret
def e39:C :=
 .n [.box 2 27 (.t 0),.box 3 29 (.t 1),.alloc 4 71 [(.int .i64 0),(.str []),.nils],.mov (some 5) (.k (.bool false))] <|
 .seq (.n [.f 8 2 2,.l 9 8,.ll 10 9,.mov (some 11) (.i 0)] <|
 .block 0 <|
  .loop <|
   .n [.b 12 .lss 11 10] <|
   .seq (.cond (.t 12)
    (.skip)
    (.exit 0)) <|
   .seq (.block 1 <|
    .n [.ia 13 3 9 11,.load (some 14) false 3 true (.t 13),.alloc 7 71 [(.int .i64 0),(.str []),.nils],.store 3 (.t 7) (.t 14)] <|
    .n [.f 15 0 7,.load (some 16) false 2 true (.t 15),.load (some 17) false 2 true (.t 3),.eqA (some 18) false [0,1] (.t 16) (.t 17)] <|
    .cond (.t 18)
     (.n [.load (some 19) false 3 true (.t 7),.e 20 23 80 [.t 19],.store 3 (.t 4) (.t 20),.mov (some 5) (.k (.bool true))] <|
     .ret)
     (.skip)) <|
   .o [.bi 21 .add 11 1,.m 11 21]) <|
 .n [.build (some 22) [(.int .i64 0),(.str []),.nils] [],.store 3 (.t 4) (.t 22),.mov (some 5) (.k (.bool false))] <|
 .ret
def e40:C :=
 .n [.box 2 27 (.t 0),.alloc 4 90 [.nils,.nils,.nils,.nils]] <|
 .n [.load (some 6) false 8 true (.t 2),.c 7 30 [.t 6],.alloc 5 53 [.nils,.nils,.nils],.store 3 (.t 5) (.t 7)] <|
 .seq (.p [.load (some 8) false 3 true (.t 5),.load (some 9) false 3 true (.t 5),.m 10 1,.c 11 81 [.t 9,.t 10],.build (some 12) [.nils,.nils,.nils,.nils] [(0,3,(.t 8)),(3,1,(.t 11))],.store 4 (.t 4) (.t 12)]) <|
 .ret
def e41:C :=
 .n [.box 3 90 (.t 0),.box 4 29 (.t 1),.mov (some 6) (.k (.bool false))] <|
 .seq (.n [.m 9 2,.ll 10 9,.mov (some 11) (.i 0)] <|
 .block 0 <|
  .loop <|
   .n [.b 12 .lss 11 10] <|
   .seq (.cond (.t 12)
    (.skip)
    (.exit 0)) <|
   .seq (.block 1 <|
    .n [.ia 13 1 9 11,.l 14 13,.m 8 14] <|
    .n [.f 15 0 3,.load (some 16) false 3 true (.t 15),.f 17 3 3,.l 18 17,.m 19 8,.load (some 20) false 2 true (.t 4),.c 21 82 [.t 16,.t 18,.t 19,.t 20],.un (some 22) .not (.t 21)] <|
    .cond (.t 22)
     (.n [.mov (some 6) (.k (.bool false))] <|
     .ret)
     (.skip)) <|
   .o [.bi 23 .add 11 1,.m 11 23]) <|
 .n [.mov (some 6) (.k (.bool true))] <|
 .ret
def e42:C :=
 .n [.box 2 27 (.t 0),.box 3 29 (.t 1),.alloc 4 71 [(.int .i64 0),(.str []),.nils],.mov (some 5) (.k (.bool false))] <|
 .n [.f 7 2 2,.l 8 7,.load (some 9) false 2 true (.t 3),.c 10 83 [.t 8,.t 9],.m 6 10] <|
 .seq (.n [.m 11 6,.bi 12 .lss 11 0] <|
 .cond (.t 12)
  (.n [.build (some 13) [(.int .i64 0),(.str []),.nils] [],.store 3 (.t 4) (.t 13),.mov (some 5) (.k (.bool false))] <|
  .ret)
  (.skip)) <|
 .n [.f 14 2 2,.l 15 14,.m 16 6,.ia 17 3 15 16,.load (some 18) false 3 true (.t 17),.store 3 (.t 4) (.t 18),.mov (some 5) (.k (.bool true))] <|
 .ret
def e46:C :=
 .n [.alloc 2 53 [.nils,.nils,.nils],.mov (some 3) (.i 0),.mov (some 4) (.i 0)] <|
 .seq (.n [.m 11 0,.ls 12 11,.bi 13 .gtr 12 8192] <|
 .cond (.t 13)
  (.n [.build (some 14) [.nils,.nils,.nils] [],.store 3 (.t 2) (.t 14),.mov (some 3) (.i 0),.mov (some 4) (.i 3)] <|
  .ret)
  (.skip)) <|
 .n [.alloc 5 53 [.nils,.nils,.nils]] <|
 .n [.m 15 0,.c 16 85 [.t 15],.m 6 16] <|
 .seq (.n [.mov (some 7) (.i 0)] <|
 .block 0 <|
  .loop <|
   .seq (.n [.m 17 7,.m 18 6,.ll 19 18,.b 20 .lss 17 19] <|
   .cond (.t 20)
    (.skip)
    (.exit 0)) <|
   .seq (.block 1 <|
    .seq (.p [.load (some 24) false 3 true (.t 5),.m 25 6,.m 26 7,.ia 27 1 25 26,.l 28 27,.c 29 86 [.t 24,.t 28],.m 23 29,.x 30 0 23,.x 31 1 23,.alloc 8 53 [.nils,.nils,.nils],.store 3 (.t 8) (.t 30),.m 9 31]) <|
    .seq (.n [.m 32 9,.un (some 33) .not (.t 32)] <|
    .cond (.t 33)
     (.n [.build (some 34) [.nils,.nils,.nils] [],.m 35 7,.bi 36 .add 35 1,.store 3 (.t 2) (.t 34),.m 3 36,.mov (some 4) (.i 1)] <|
     .ret)
     (.skip)) <|
    .o [.load (some 37) false 3 true (.t 8),.store 3 (.t 5) (.t 37)]) <|
   .o [.m 21 7,.bi 22 .add 21 1,.m 7 22]) <|
 .seq (.n [.load (some 38) false 3 true (.t 5),.c 39 87 [.t 38],.m 10 39] <|
 .n [.m 40 10,.bi 41 .neq 40 0] <|
 .cond (.t 41)
  (.n [.build (some 42) [.nils,.nils,.nils] [],.m 43 10,.store 3 (.t 2) (.t 42),.mov (some 3) (.i 0),.m 4 43] <|
  .ret)
  (.skip)) <|
 .n [.load (some 44) false 3 true (.t 5),.store 3 (.t 2) (.t 44),.mov (some 3) (.i 0),.mov (some 4) (.i 0)] <|
 .ret
def e47:C :=
 .n [.box 1 29 (.t 0),.mov (some 2) (.k (.bool false))] <|
 .n [.f 9 1 1,.l 10 9,.m 3 10] <|
 .seq (.seq (.ops false [⟨none,[.f 11 0 1,.l 12 11,.bi 13 .lss 12 0,.m 14 13]⟩,
  ⟨some (14,false),[.f 15 0 1,.l 16 15,.bi 17 .geq 16 6]⟩,
  ⟨none,[.pt 18 14 17,.m 19 18]⟩,
  ⟨some (19,false),[.m 20 3,.ls 21 20,.bi 22 .lss 21 1]⟩,
  ⟨none,[.pt 23 19 22,.m 24 23]⟩,
  ⟨some (24,false),[.m 25 3,.ls 26 25,.bi 27 .gtr 26 100]⟩,
  ⟨none,[.pt 28 24 27]⟩]) <|
 .cond (.t 28)
  (.n [.mov (some 2) (.k (.bool false))] <|
  .ret)
  (.skip)) <|
 .seq (.n [.mov (some 4) (.i 0)] <|
 .block 0 <|
  .loop <|
   .seq (.n [.m 29 4,.m 30 3,.ls 31 30,.b 32 .lss 29 31] <|
   .cond (.t 32)
    (.skip)
    (.exit 0)) <|
   .seq (.block 1 <|
    .seq (.ops false [⟨none,[.m 35 3,.m 36 4,.ix 37 35 36,.bin (some 38) .lss (.t 37) (.k (.int .u8 32)),.m 39 38]⟩,
     ⟨some (39,false),[.m 40 3,.m 41 4,.ix 42 40 41,.bin (some 43) .eql (.t 42) (.k (.int .u8 127))]⟩,
     ⟨none,[.pt 44 39 43,.m 45 44]⟩,
     ⟨some (45,false),[.m 46 3,.m 47 4,.m 48 4,.bi 49 .add 48 1,.slcS (some 50) (.t 46) (some (.t 47)) (some (.t 49)),.c 51 88 [.s [60,62,91,93,123,125,124,35,95],.t 50,.i 0],.bi 52 .geq 51 0]⟩,
     ⟨none,[.pt 53 45 52,.m 54 53]⟩,
     ⟨some (54,false),[.m 55 3,.m 56 4,.ix 57 55 56,.bin (some 58) .eql (.t 57) (.k (.int .u8 32)),.m 59 58]⟩,
     ⟨some (59,true),[.m 60 4,.bi 61 .gtr 60 0]⟩,
     ⟨some (54,false),[.pf 62 59 61,.m 63 62]⟩,
     ⟨some (63,true),[.m 64 3,.m 65 4,.bi 66 .sub 65 1,.ix 67 64 66,.bin (some 68) .eql (.t 67) (.k (.int .u8 32))]⟩,
     ⟨some (54,false),[.pf 69 63 68]⟩,
     ⟨none,[.pt 70 54 69]⟩]) <|
    .cond (.t 70)
     (.n [.mov (some 2) (.k (.bool false))] <|
     .ret)
     (.skip)) <|
   .o [.m 33 4,.bi 34 .add 33 1,.m 4 34]) <|
 .n [.m 71 3,.c 72 89 [.t 71],.m 5 72] <|
 .seq (.n [.mov (some 6) (.i 0)] <|
 .block 2 <|
  .loop <|
   .seq (.n [.m 73 6,.m 74 5,.ll 75 74,.b 76 .lss 73 75] <|
   .cond (.t 76)
    (.skip)
    (.exit 2)) <|
   .seq (.block 3 <|
    .seq (.ops true [⟨none,[.m 79 5,.m 80 6,.ia 81 1 79 80,.l 82 81,.bin (some 83) .eql (.t 82) (.s []),.m 84 83]⟩,
     ⟨some (84,false),[.m 85 5,.m 86 6,.ia 87 1 85 86,.l 88 87,.idx (some 89) (.t 88) (.i 0),.bin (some 90) .eql (.t 89) (.k (.int .u8 32))]⟩,
     ⟨none,[.pt 91 84 90,.m 92 91]⟩,
     ⟨some (92,false),[.m 93 5,.m 94 6,.ia 95 1 93 94,.l 96 95,.m 97 5,.m 98 6,.ia 99 1 97 98,.l 100 99,.ls 101 100,.bi 102 .sub 101 1,.ix 103 96 102,.bin (some 104) .eql (.t 103) (.k (.int .u8 32))]⟩,
     ⟨none,[.pt 105 92 104]⟩]) <|
    .cond (.t 105)
     (.n [.mov (some 2) (.k (.bool false))] <|
     .ret)
     (.skip)) <|
   .o [.m 77 6,.bi 78 .add 77 1,.m 6 78]) <|
 .seq (.seq (.ops false [⟨none,[.m 106 3,.idx (some 107) (.t 106) (.i 0),.bin (some 108) .eql (.t 107) (.k (.int .u8 58)),.m 109 108]⟩,
  ⟨some (109,false),[.m 110 3,.idx (some 111) (.t 110) (.i 0),.bin (some 112) .geq (.t 111) (.k (.int .u8 97)),.m 113 112]⟩,
  ⟨some (113,true),[.m 114 3,.idx (some 115) (.t 114) (.i 0),.bin (some 116) .leq (.t 115) (.k (.int .u8 122))]⟩,
  ⟨some (109,false),[.pf 117 113 116]⟩,
  ⟨none,[.pt 118 109 117]⟩]) <|
 .cond (.t 118)
  (.n [.mov (some 2) (.k (.bool false))] <|
  .ret)
  (.skip)) <|
 .n [.m 120 3,.c 121 90 [.t 120],.m 119 121,.x 122 0 119,.x 123 1 119,.m 7 122,.m 8 123] <|
 .seq (.ops false [⟨none,[.f 124 0 1,.l 125 124,.bi 126 .neq 125 0,.m 127 126]⟩,
  ⟨some (127,false),[.m 128 7,.bi 129 .eql 128 0]⟩,
  ⟨none,[.pt 130 127 129,.m 2 130]⟩]) <|
 .ret
def e48:C :=
 .n [.box 1 29 (.t 0),.mov (some 2) (.k .nils)] <|
 .n [.load (some 6) false 2 true (.t 1),.build (some 7) [(.int .i64 0),(.int .i64 0),(.str [])] [(0,1,(.i 3)),(1,2,(.t 6))],.mkv 8 107 3 [.t 7],.m 3 8] <|
 .n [.load (some 9) false 2 true (.t 1),.c 10 91 [.t 9],.m 4 10] <|
 .seq (.n [.m 11 4,.ll 12 11,.bi 13 .sub 12 1,.m 5 13] <|
 .block 0 <|
  .loop <|
   .seq (.n [.m 14 5,.bi 15 .geq 14 0] <|
   .cond (.t 15)
    (.skip)
    (.exit 0)) <|
   .seq (.block 1 <|
    .o [.m 18 3,.m 19 4,.m 20 5,.ia 21 2 19 20,.load (some 22) false 2 true (.t 21),.build (some 23) [(.int .i64 0),(.int .i64 0),(.str [])] [(0,1,(.i 3)),(1,2,(.t 22))],.mkl (some 24) 3 [.t 23],.app 25 107 3 (.t 18) (.t 24),.m 3 25]) <|
   .o [.m 16 5,.bi 17 .sub 16 1,.m 5 17]) <|
 .n [.m 26 3,.f 27 0 1,.l 28 27,.build (some 29) [(.int .i64 0),(.str [])] [(0,1,(.t 28))],.build (some 30) [(.int .i64 0),(.int .i64 0),(.str [])] [(0,1,(.i 2)),(1,2,(.t 29))],.build (some 31) [(.int .i64 0),(.int .i64 0),(.str [])] [(0,1,(.i 1))],.mkl (some 32) 3 [.t 30,.t 31],.app 33 107 3 (.t 26) (.t 32),.m 2 33] <|
 .ret
def e49:C :=
 .n [.mov (some 4) (.k (.bool false))] <|
 .seq (.n [.mov (some 5) (.i 0)] <|
 .block 0 <|
  .loop <|
   .seq (.n [.m 6 5,.m 7 0,.ll 8 7,.b 9 .lss 6 8] <|
   .cond (.t 9)
    (.skip)
    (.exit 0)) <|
   .seq (.block 1 <|
    .n [.m 12 0,.m 13 5,.ia 14 1 12 13,.l 15 14,.m 16 1,.b 17 .eql 15 16] <|
    .cond (.t 17)
     (.n [.mov (some 4) (.k (.bool true))] <|
     .ret)
     (.skip)) <|
   .o [.m 10 5,.bi 11 .add 10 1,.m 5 11]) <|
 .n [.mov (some 4) (.k (.bool false))] <|
 .ret
def e51:C :=
 .n [.mov (some 2) (.k (.bool false))] <|
 .seq (.seq (.ops false [⟨none,[.m 5 0,.ls 6 5,.bi 7 .lss 6 1,.m 8 7]⟩,
  ⟨some (8,false),[.m 9 0,.ls 10 9,.bi 11 .gtr 10 30]⟩,
  ⟨none,[.pt 12 8 11,.m 13 12]⟩,
  ⟨some (13,false),[.m 14 0,.idx (some 15) (.t 14) (.i 0),.bin (some 16) .lss (.t 15) (.k (.int .u8 97))]⟩,
  ⟨none,[.pt 17 13 16,.m 18 17]⟩,
  ⟨some (18,false),[.m 19 0,.idx (some 20) (.t 19) (.i 0),.bin (some 21) .gtr (.t 20) (.k (.int .u8 122))]⟩,
  ⟨none,[.pt 22 18 21]⟩]) <|
 .cond (.t 22)
  (.n [.mov (some 2) (.k (.bool false))] <|
  .ret)
  (.skip)) <|
 .seq (.n [.mov (some 3) (.i 0)] <|
 .block 0 <|
  .loop <|
   .seq (.n [.m 23 3,.m 24 0,.ls 25 24,.b 26 .lss 23 25] <|
   .cond (.t 26)
    (.skip)
    (.exit 0)) <|
   .seq (.block 1 <|
    .n [.m 29 0,.m 30 3,.ix 31 29 30,.m 4 31] <|
    .seq (.ops false [⟨none,[.m 32 4,.bin (some 33) .lss (.t 32) (.k (.int .u8 97)),.m 34 33]⟩,
     ⟨some (34,false),[.m 35 4,.bin (some 36) .gtr (.t 35) (.k (.int .u8 122))]⟩,
     ⟨none,[.pt 37 34 36,.m 38 37]⟩,
     ⟨some (38,true),[.m 39 4,.bin (some 40) .lss (.t 39) (.k (.int .u8 48)),.m 41 40]⟩,
     ⟨some (41,false),[.m 42 4,.bin (some 43) .gtr (.t 42) (.k (.int .u8 57))]⟩,
     ⟨some (38,true),[.pt 44 41 43]⟩,
     ⟨none,[.pf 45 38 44,.m 46 45]⟩,
     ⟨some (46,true),[.m 47 4,.bin (some 48) .neq (.t 47) (.k (.int .u8 45))]⟩,
     ⟨none,[.pf 49 46 48,.m 50 49]⟩,
     ⟨some (50,true),[.m 51 4,.bin (some 52) .neq (.t 51) (.k (.int .u8 95))]⟩,
     ⟨none,[.pf 53 50 52]⟩]) <|
    .cond (.t 53)
     (.n [.mov (some 2) (.k (.bool false))] <|
     .ret)
     (.skip)) <|
   .o [.m 27 3,.bi 28 .add 27 1,.m 3 28]) <|
 .n [.mov (some 2) (.k (.bool true))] <|
 .ret
def e52:C :=
 .n [.mov (some 4) (.k .nils)] <|
 .n [.mov (some 5) (.i 0)] <|
 .seq (.block 0 <|
  .loop <|
   .seq (.seq (.ops false [⟨none,[.m 6 5,.m 7 0,.ll 8 7,.b 9 .lss 6 8,.m 10 9]⟩,
    ⟨some (10,true),[.m 11 0,.m 12 5,.ia 13 1 11 12,.l 14 13,.m 15 1,.b 16 .lss 14 15]⟩,
    ⟨none,[.pf 17 10 16]⟩]) <|
   .cond (.t 17)
    (.skip)
    (.exit 0)) <|
   .block 1 <|
    .o [.m 18 5,.bi 19 .add 18 1,.m 5 19]) <|
 .seq (.seq (.ops false [⟨none,[.m 20 5,.m 21 0,.ll 22 21,.b 23 .lss 20 22,.m 24 23]⟩,
  ⟨some (24,true),[.m 25 0,.m 26 5,.ia 27 1 25 26,.l 28 27,.m 29 1,.b 30 .eql 28 29]⟩,
  ⟨none,[.pf 31 24 30]⟩]) <|
 .cond (.t 31)
  (.n [.m 32 0,.m 4 32] <|
  .ret)
  (.skip)) <|
 .seq (.p [.m 33 0,.m 34 5,.slc (some 35) 1 (.t 33) none (some (.t 34)),.app 36 9 1 (.k .nils) (.t 35),.m 37 1,.mkl (some 38) 1 [.t 37],.app 39 9 1 (.t 36) (.t 38),.m 40 0,.m 41 5,.slc (some 42) 1 (.t 40) (some (.t 41)) none,.app 43 9 1 (.t 39) (.t 42),.m 4 43]) <|
 .ret
def e53:C :=
 .n [.box 3 116 (.t 0),.mov (some 6) (.k (.bool false))] <|
 .seq (.n [.mov (some 7) (.i 0)] <|
 .block 0 <|
  .loop <|
   .seq (.n [.m 9 7,.f 10 1 3,.l 11 10,.ll 12 11,.b 13 .lss 9 12] <|
   .cond (.t 13)
    (.skip)
    (.exit 0)) <|
   .seq (.block 1 <|
    .n [.f 16 1 3,.l 17 16,.m 18 7,.ia 19 1 17 18,.l 20 19,.m 8 20] <|
    .seq (.ops false [⟨none,[.m 21 1,.c 22 51 [.t 21],.m 23 22]⟩,
     ⟨some (23,true),[.m 24 8,.m 25 1,.b 26 .eql 24 25]⟩,
     ⟨none,[.pf 27 23 26,.m 28 27]⟩,
     ⟨some (28,false),[.m 29 8,.ls 30 29,.bi 31 .gtr 30 0,.m 32 31]⟩,
     ⟨some (32,true),[.m 33 8,.idx (some 34) (.t 33) (.i 0),.bin (some 35) .eql (.t 34) (.k (.int .u8 64))]⟩,
     ⟨some (28,false),[.pf 36 32 35,.m 37 36]⟩,
     ⟨some (37,true),[.m 38 2,.m 39 8,.slcS (some 40) (.t 39) (some (.i 1)) none,.c 41 49 [.t 38,.t 40]]⟩,
     ⟨some (28,false),[.pf 42 37 41]⟩,
     ⟨none,[.pt 43 28 42]⟩]) <|
    .cond (.t 43)
     (.n [.mov (some 6) (.k (.bool true))] <|
     .ret)
     (.skip)) <|
   .o [.m 14 7,.bi 15 .add 14 1,.m 7 15]) <|
 .n [.mov (some 6) (.k (.bool false))] <|
 .ret
def e54:C :=
 .n [.box 1 27 (.t 0),.mov (some 2) (.k (.bool false))] <|
 .seq (.seq (.ops false [⟨none,[.f 3 0 1,.l 4 3,.bi 5 .lss 4 0,.m 6 5]⟩,
  ⟨some (6,false),[.f 7 0 1,.l 8 7,.bi 9 .gtr 8 1073741824]⟩,
  ⟨none,[.pt 10 6 9,.m 11 10]⟩,
  ⟨some (11,false),[.f 12 1 1,.l 13 12,.bi 14 .lss 13 0]⟩,
  ⟨none,[.pt 15 11 14,.m 16 15]⟩,
  ⟨some (16,false),[.f 17 1 1,.l 18 17,.bi 19 .gtr 18 52595999]⟩,
  ⟨none,[.pt 20 16 19]⟩]) <|
 .cond (.t 20)
  (.n [.mov (some 2) (.k (.bool false))] <|
  .ret)
  (.skip)) <|
 .seq (.ops false [⟨none,[.load (some 21) false 8 true (.t 1),.c 22 92 [.t 21],.m 23 22]⟩,
  ⟨some (23,true),[.load (some 24) false 8 true (.t 1),.c 25 93 [.t 24]]⟩,
  ⟨none,[.pf 26 23 25,.m 27 26]⟩,
  ⟨some (27,true),[.load (some 28) false 8 true (.t 1),.c 29 94 [.t 28]]⟩,
  ⟨none,[.pf 30 27 29,.m 2 30]⟩]) <|
 .ret
def e55:C :=
 .n [.box 1 61 (.t 0),.mov (some 2) (.i 0)] <|
 .seq (.n [.load (some 4) false 10 true (.t 1),.c 5 95 [.t 4],.un (some 6) .not (.t 5)] <|
 .cond (.t 6)
  (.n [.mov (some 2) (.i 7)] <|
  .ret)
  (.skip)) <|
 .seq (.n [.load (some 7) false 10 true (.t 1),.c 8 96 [.t 7],.un (some 9) .not (.t 8)] <|
 .cond (.t 9)
  (.n [.mov (some 2) (.i 2)] <|
  .ret)
  (.skip)) <|
 .seq (.seq (.ops false [⟨none,[.f 10 7 1,.l 11 10,.ls 12 11,.bi 13 .gtr 12 8192,.m 14 13]⟩,
  ⟨some (14,false),[.f 15 2 1,.l 16 15,.ls 17 16,.bi 18 .gtr 17 200]⟩,
  ⟨none,[.pt 19 14 18]⟩]) <|
 .cond (.t 19)
  (.n [.mov (some 2) (.i 3)] <|
  .ret)
  (.skip)) <|
 .seq (.n [.mov (some 3) (.i 0)] <|
 .block 0 <|
  .loop <|
   .seq (.n [.m 20 3,.f 21 9 1,.l 22 21,.ll 23 22,.b 24 .lss 20 23] <|
   .cond (.t 24)
    (.skip)
    (.exit 0)) <|
   .seq (.block 1 <|
    .seq (.ops false [⟨none,[.f 27 9 1,.l 28 27,.m 29 3,.ia 30 6 28 29,.f 31 3 30,.l 32 31,.ls 33 32,.bi 34 .gtr 33 8192,.m 35 34]⟩,
     ⟨some (35,false),[.f 36 9 1,.l 37 36,.m 38 3,.ia 39 6 37 38,.f 40 2 39,.l 41 40,.ls 42 41,.bi 43 .gtr 42 200]⟩,
     ⟨none,[.pt 44 35 43]⟩]) <|
    .cond (.t 44)
     (.n [.mov (some 2) (.i 3)] <|
     .ret)
     (.skip)) <|
   .o [.m 25 3,.bi 26 .add 25 1,.m 3 26]) <|
 .n [.mov (some 2) (.i 0)] <|
 .ret
def e56:C :=
 .n [.box 3 27 (.t 0),.box 4 61 (.t 1),.alloc 6 27 [(.int .i64 0),(.int .i64 0),.nils,.nils,.nils,(.int .i64 0),.nils,.nils],.mov (some 7) (.i 0)] <|
 .seq (.n [.f 8 0 4,.l 9 8] <|
 .block 0 <|
  .n [.bi 11 .eql 9 1,.m 10 11] <|
  .cond (.t 10)
   (.n [.load (some 12) false 8 true (.t 3),.load (some 13) false 10 true (.t 4),.m 14 2,.c 15 97 [.t 12,.t 13,.t 14],.x 16 0 15,.x 17 1 15,.store 8 (.t 6) (.t 16),.m 7 17] <|
   .ret)
   (.n [.bi 19 .eql 9 2,.m 18 19] <|
   .cond (.t 18)
    (.n [.load (some 20) false 8 true (.t 3),.load (some 21) false 10 true (.t 4),.c 22 98 [.t 20,.t 21],.x 23 0 22,.x 24 1 22,.store 8 (.t 6) (.t 23),.m 7 24] <|
    .ret)
    (.n [.bi 26 .eql 9 3,.m 25 26] <|
    .cond (.t 25)
     (.n [.load (some 27) false 8 true (.t 3),.load (some 28) false 10 true (.t 4),.c 29 99 [.t 27,.t 28],.x 30 0 29,.x 31 1 29,.store 8 (.t 6) (.t 30),.m 7 31] <|
     .ret)
     (.n [.bi 33 .eql 9 4,.m 32 33] <|
     .cond (.t 32)
      (.n [.load (some 34) false 8 true (.t 3),.load (some 35) false 10 true (.t 4),.m 36 2,.c 37 100 [.t 34,.t 35,.t 36],.x 38 0 37,.x 39 1 37,.store 8 (.t 6) (.t 38),.m 7 39] <|
      .ret)
      (.n [.bi 41 .eql 9 5,.m 40 41] <|
      .cond (.t 40)
       (.n [.load (some 42) false 8 true (.t 3),.load (some 43) false 10 true (.t 4),.m 44 2,.c 45 101 [.t 42,.t 43,.t 44],.x 46 0 45,.x 47 1 45,.store 8 (.t 6) (.t 46),.m 7 47] <|
       .ret)
       (.n [.bi 49 .eql 9 6,.m 48 49] <|
       .cond (.t 48)
        (.seq (.n [.f 50 8 4,.l 51 50,.f 52 1 3,.l 53 52,.bin (some 54) .sub (.i 52595999) (.t 53),.b 55 .gtr 51 54] <|
        .cond (.t 55)
         (.n [.load (some 56) false 8 true (.t 3),.store 8 (.t 6) (.t 56),.mov (some 7) (.i 2)] <|
         .ret)
         (.skip)) <|
        .n [.f 57 1 3,.l 58 57,.f 59 8 4,.l 60 59,.b 61 .add 58 60,.f 62 1 3,.store 1 (.t 62) (.t 61)] <|
        .n [.load (some 63) false 8 true (.t 3),.store 8 (.t 6) (.t 63),.mov (some 7) (.i 0)] <|
        .ret)
        (.seq (.n [.bi 65 .eql 9 7,.m 64 65] <|
        .cond (.t 64)
         (.skip)
         (.o [.bi 66 .eql 9 8,.m 64 66])) <|
        .cond (.t 64)
         (.n [.load (some 67) false 8 true (.t 3),.load (some 68) false 10 true (.t 4),.c 69 102 [.t 67,.t 68],.x 70 0 69,.x 71 1 69,.store 8 (.t 6) (.t 70),.m 7 71] <|
         .ret)
         (.n [.bi 73 .eql 9 9,.m 72 73] <|
         .cond (.t 72)
          (.n [.load (some 74) false 8 true (.t 3),.load (some 75) false 10 true (.t 4),.c 76 103 [.t 74,.t 75],.x 77 0 76,.x 78 1 76,.store 8 (.t 6) (.t 77),.m 7 78] <|
          .ret)
          (.skip))))))))) <|
 .n [.load (some 79) false 8 true (.t 3),.load (some 80) false 10 true (.t 4),.c 81 104 [.t 79,.t 80],.x 82 0 81,.x 83 1 81,.store 8 (.t 6) (.t 82),.m 7 83] <|
 .ret
def e57:C :=
 .n [.box 1 61 (.t 0),.mov (some 2) (.k (.bool false))] <|
 .seq (.n [.f 6 0 1,.l 7 6] <|
 .block 0 <|
  .n [.bi 9 .eql 7 1,.m 8 9] <|
  .cond (.t 8)
   (.seq (.seq (.p [.f 10 3 1,.load (some 11) false 2 true (.t 10),.c 12 105 [],.eqA (some 13) true [0,1] (.t 11) (.t 12)]) <|
   .cond (.t 13)
    (.n [.mov (some 2) (.k (.bool false))] <|
    .ret)
    (.skip)) <|
   .n [.f 15 7 1,.l 16 15,.c 17 46 [.t 16],.m 14 17,.x 18 0 14,.x 19 1 14,.x 20 2 14,.alloc 3 53 [.nils,.nils,.nils],.store 3 (.t 3) (.t 18),.m 4 19,.m 5 20] <|
   .n [.m 21 5,.bi 22 .neq 21 0,.m 2 22] <|
   .ret)
   (.seq (.n [.bi 24 .eql 7 2,.m 23 24] <|
   .cond (.t 23)
    (.skip)
    (.n [.bi 25 .eql 7 3,.m 23 25] <|
    .cond (.t 23)
     (.skip)
     (.o [.bi 26 .eql 7 5,.m 23 26]))) <|
   .cond (.t 23)
    (.seq (.p [.f 27 3 1,.load (some 28) false 2 true (.t 27),.c 29 105 [],.eqA (some 30) false [0,1] (.t 28) (.t 29),.m 2 30]) <|
    .ret)
    (.n [.bi 32 .eql 7 4,.m 31 32] <|
    .cond (.t 31)
     (.seq (.ops true [⟨none,[.f 33 3 1,.load (some 34) false 2 true (.t 33),.c 35 105 [],.eqA (some 36) false [0,1] (.t 34) (.t 35),.m 37 36]⟩,
      ⟨some (37,false),[.f 38 5 1,.load (some 39) false 2 true (.t 38),.c 40 105 [],.eqA (some 41) false [0,1] (.t 39) (.t 40)]⟩,
      ⟨none,[.pt 42 37 41,.m 2 42]⟩]) <|
     .ret)
     (.skip)))) <|
 .n [.mov (some 2) (.k (.bool false))] <|
 .ret
def e58:C :=
 .n [.box 3 27 (.t 0),.alloc 6 27 [(.int .i64 0),(.int .i64 0),.nils,.nils,.nils,(.int .i64 0),.nils,.nils],.mov (some 7) (.i 0)] <|
 .seq (.n [.m 11 1,.bin (some 12) .eql (.t 11) (.s [])] <|
 .cond (.t 12)
  (.n [.load (some 13) false 8 true (.t 3),.store 8 (.t 6) (.t 13),.mov (some 7) (.i 0)] <|
  .ret)
  (.skip)) <|
 .n [.mov (some 8) (.k .nils)] <|
 .n [.mov (some 9) (.i 0)] <|
 .seq (.block 0 <|
  .loop <|
   .seq (.seq (.ops false [⟨none,[.m 14 9,.f 15 7 3,.l 16 15,.ll 17 16,.b 18 .lss 14 17,.m 19 18]⟩,
    ⟨some (19,true),[.f 20 7 3,.l 21 20,.m 22 9,.ia 23 2 21 22,.f 24 0 23,.l 25 24,.m 26 1,.b 27 .lss 25 26]⟩,
    ⟨none,[.pf 28 19 27]⟩]) <|
   .cond (.t 28)
    (.skip)
    (.exit 0)) <|
   .block 1 <|
    .n [.m 29 8,.f 30 7 3,.l 31 30,.m 32 9,.ia 33 2 31 32,.load (some 34) false 2 true (.t 33),.mkl (some 35) 2 [.t 34],.app 36 155 2 (.t 29) (.t 35),.m 8 36] <|
    .o [.m 37 9,.bi 38 .add 37 1,.m 9 38]) <|
 .seq (.ops false [⟨none,[.m 39 9,.f 40 7 3,.l 41 40,.ll 42 41,.b 43 .lss 39 42,.m 44 43]⟩,
  ⟨some (44,true),[.f 45 7 3,.l 46 45,.m 47 9,.ia 48 2 46 47,.f 49 0 48,.l 50 49,.m 51 1,.b 52 .eql 50 51]⟩,
  ⟨none,[.pf 53 44 52,.m 10 53]⟩]) <|
 .seq (.seq (.ops false [⟨none,[.m 54 10,.un (some 55) .not (.t 54),.m 56 55]⟩,
  ⟨some (56,true),[.f 57 7 3,.l 58 57,.ll 59 58,.bi 60 .geq 59 60]⟩,
  ⟨none,[.pf 61 56 60]⟩]) <|
 .cond (.t 61)
  (.n [.load (some 62) false 8 true (.t 3),.store 8 (.t 6) (.t 62),.mov (some 7) (.i 8)] <|
  .ret)
  (.skip)) <|
 .n [.m 63 8,.m 64 1,.m 65 2,.build (some 66) [(.str []),(.int .i64 0)] [(0,1,(.t 64)),(1,1,(.t 65))],.mkl (some 67) 2 [.t 66],.app 68 155 2 (.t 63) (.t 67),.m 8 68] <|
 .seq (.n [.m 69 10] <|
 .cond (.t 69)
  (.o [.m 70 9,.bi 71 .add 70 1,.m 9 71])
  (.skip)) <|
 .n [.m 72 8,.f 73 7 3,.l 74 73,.m 75 9,.slc (some 76) 2 (.t 74) (some (.t 75)) none,.app 77 155 2 (.t 72) (.t 76),.f 78 7 3,.store 1 (.t 78) (.t 77)] <|
 .n [.load (some 79) false 8 true (.t 3),.store 8 (.t 6) (.t 79),.mov (some 7) (.i 0)] <|
 .ret
def e59:C :=
 .n [.box 1 29 (.t 0),.mov (some 2) (.k (.bool false))] <|
 .n [.f 9 1 1,.l 10 9,.m 3 10] <|
 .seq (.seq (.ops false [⟨none,[.f 11 0 1,.l 12 11,.bi 13 .lss 12 0,.m 14 13]⟩,
  ⟨some (14,false),[.f 15 0 1,.l 16 15,.bi 17 .geq 16 6]⟩,
  ⟨none,[.pt 18 14 17,.m 19 18]⟩,
  ⟨some (19,false),[.m 20 3,.ls 21 20,.bi 22 .lss 21 1]⟩,
  ⟨none,[.pt 23 19 22,.m 24 23]⟩,
  ⟨some (24,false),[.m 25 3,.ls 26 25,.bi 27 .gtr 26 100]⟩,
  ⟨none,[.pt 28 24 27,.m 29 28]⟩,
  ⟨some (29,false),[.m 30 3,.c 31 106 [.t 30],.un (some 32) .not (.t 31)]⟩,
  ⟨none,[.pt 33 29 32]⟩]) <|
 .cond (.t 33)
  (.n [.mov (some 2) (.k (.bool false))] <|
  .ret)
  (.skip)) <|
 .seq (.n [.m 34 3,.c 35 107 [.t 34,.s [47]],.ll 36 35,.mov (some 37) (.i 0)] <|
 .block 0 <|
  .loop <|
   .n [.b 38 .lss 37 36] <|
   .seq (.cond (.t 38)
    (.skip)
    (.exit 0)) <|
   .seq (.block 1 <|
    .n [.ia 39 1 35 37,.l 40 39,.m 5 40] <|
    .seq (.ops false [⟨none,[.m 41 5,.bin (some 42) .eql (.t 41) (.s []),.m 43 42]⟩,
     ⟨some (43,false),[.m 44 5,.idx (some 45) (.t 44) (.i 0),.bin (some 46) .eql (.t 45) (.k (.int .u8 32))]⟩,
     ⟨none,[.pt 47 43 46,.m 48 47]⟩,
     ⟨some (48,false),[.m 49 5,.m 50 5,.ls 51 50,.bi 52 .sub 51 1,.ix 53 49 52,.bin (some 54) .eql (.t 53) (.k (.int .u8 32))]⟩,
     ⟨none,[.pt 55 48 54]⟩]) <|
    .cond (.t 55)
     (.n [.mov (some 2) (.k (.bool false))] <|
     .ret)
     (.skip)) <|
   .o [.bi 56 .add 37 1,.m 37 56]) <|
 .seq (.seq (.ops false [⟨none,[.m 57 3,.idx (some 58) (.t 57) (.i 0),.bin (some 59) .eql (.t 58) (.k (.int .u8 58)),.m 60 59]⟩,
  ⟨some (60,false),[.m 61 3,.idx (some 62) (.t 61) (.i 0),.bin (some 63) .geq (.t 62) (.k (.int .u8 97)),.m 64 63]⟩,
  ⟨some (64,true),[.m 65 3,.idx (some 66) (.t 65) (.i 0),.bin (some 67) .leq (.t 66) (.k (.int .u8 122))]⟩,
  ⟨some (60,false),[.pf 68 64 67]⟩,
  ⟨none,[.pt 69 60 68]⟩]) <|
 .cond (.t 69)
  (.n [.mov (some 2) (.k (.bool false))] <|
  .ret)
  (.skip)) <|
 .n [.m 71 3,.c 72 108 [.t 71],.m 70 72,.x 73 0 70,.x 74 1 70,.x 75 2 70,.m 6 73,.m 7 74,.m 8 75] <|
 .seq (.ops false [⟨none,[.f 76 0 1,.l 77 76,.bi 78 .neq 77 0,.m 79 78]⟩,
  ⟨some (79,false),[.m 80 8,.un (some 81) .not (.t 80)]⟩,
  ⟨none,[.pt 82 79 81,.m 2 82]⟩]) <|
 .ret
def e60:C :=
 .n [.mov (some 2) (.k (.bool false))] <|
 .seq (.ops false [⟨none,[.m 3 0,.bin (some 4) .eql (.t 3) (.s []),.m 5 4]⟩,
  ⟨some (5,false),[.m 6 0,.c 7 109 [.t 6]]⟩,
  ⟨none,[.pt 8 5 7,.m 2 8]⟩]) <|
 .ret
def e61:C :=
 .n [.box 2 27 (.t 0),.box 3 29 (.t 1),.mov (some 4) (.s []),.mov (some 5) (.k (.bool false))] <|
 .n [.load (some 9) false 8 true (.t 2),.load (some 10) false 2 true (.t 3),.e 11 18 39 [.t 9,.t 10],.m 8 11,.x 12 0 8,.x 13 1 8,.alloc 6 71 [(.int .i64 0),(.str []),.nils],.store 3 (.t 6) (.t 12),.m 7 13] <|
 .n [.load (some 14) false 3 true (.t 6),.call (some 15) false 72 [.t 14],.field (some 16) 3 1 false (.t 15),.m 17 7,.m 4 16,.m 5 17] <|
 .ret
def e62:C :=
 .n [.box 1 29 (.t 0),.mov (some 2) (.s [])] <|
 .seq (.n [.load (some 3) false 2 true (.t 1),.c 4 59 [.t 3],.un (some 5) .not (.t 4)] <|
 .cond (.t 5)
  (.n [.mov (some 2) (.s [])] <|
  .ret)
  (.skip)) <|
 .seq (.n [.f 6 0 1,.l 7 6,.bi 8 .eql 7 0] <|
 .cond (.t 8)
  (.n [.f 9 1 1,.l 10 9,.m 2 10] <|
  .ret)
  (.skip)) <|
 .seq (.p [.c 11 110 [],.f 12 0 1,.l 13 12,.idxA (some 14) 6 1 false (.t 11) (.t 13),.bin (some 15) .add (.t 14) (.s [58]),.f 16 1 1,.l 17 16,.b 18 .add 15 17,.m 2 18]) <|
 .ret
def e63:C :=
 .n [.box 4 90 (.t 0),.box 5 29 (.t 1),.mov (some 8) (.k (.bool false))] <|
 .n [.f 9 0 4,.load (some 10) false 3 true (.t 9),.f 11 3 4,.l 12 11,.load (some 13) false 2 true (.t 5),.m 14 2,.m 15 3,.c 16 111 [.t 10,.t 12,.t 13,.t 14,.t 15],.bi 17 .eql 16 1,.m 8 17] <|
 .ret
def e65:C :=
 .n [.mov (some 2) (.k .nils)] <|
 .seq (.n [.m 3 0,.isnil (some 4) false 1 (.t 3)] <|
 .cond (.t 4)
  (.n [.mov (some 2) (.k .nils)] <|
  .ret)
  (.skip)) <|
 .n [.mkv 5 42 6 [],.m 6 0,.app 7 42 6 (.t 5) (.t 6),.m 2 7] <|
 .ret
def e71:C :=
 .n [.alloc 2 53 [.nils,.nils,.nils],.mov (some 3) (.i 0),.mov (some 4) (.i 0)] <|
 .seq (.n [.m 9 0,.ls 10 9,.bi 11 .gtr 10 8192] <|
 .cond (.t 11)
  (.n [.build (some 12) [.nils,.nils,.nils] [],.store 3 (.t 2) (.t 12),.mov (some 3) (.i 0),.mov (some 4) (.i 3)] <|
  .ret)
  (.skip)) <|
 .n [.alloc 5 53 [.nils,.nils,.nils]] <|
 .seq (.n [.m 13 0,.c 14 107 [.t 13,.s [10]],.ll 15 14,.mov (some 16) (.i 0)] <|
 .block 0 <|
  .loop <|
   .n [.b 17 .lss 16 15] <|
   .seq (.cond (.t 17)
    (.skip)
    (.exit 0)) <|
   .seq (.block 1 <|
    .n [.m 18 16,.ia 19 1 14 16,.l 20 19,.m 6 18,.m 7 20] <|
    .n [.m 21 7,.e 22 35 116 [.t 5,.t 21],.un (some 23) .not (.t 22)] <|
    .cond (.t 23)
     (.n [.build (some 24) [.nils,.nils,.nils] [],.m 25 6,.bi 26 .add 25 1,.store 3 (.t 2) (.t 24),.m 3 26,.mov (some 4) (.i 1)] <|
     .ret)
     (.skip)) <|
   .o [.bi 27 .add 16 1,.m 16 27]) <|
 .seq (.n [.load (some 28) false 3 true (.t 5),.call (some 29) false 117 [.t 28],.m 8 29] <|
 .n [.m 30 8,.bi 31 .neq 30 0] <|
 .cond (.t 31)
  (.n [.build (some 32) [.nils,.nils,.nils] [],.m 33 8,.store 3 (.t 2) (.t 32),.mov (some 3) (.i 0),.m 4 33] <|
  .ret)
  (.skip)) <|
 .n [.load (some 34) false 3 true (.t 5),.store 3 (.t 2) (.t 34),.mov (some 3) (.i 0),.mov (some 4) (.i 0)] <|
 .ret
def e72:C :=
 .n [.box 1 71 (.t 0),.alloc 2 42 [(.int .i64 0),(.str []),(.str []),(.str []),(.int .i64 0),(.int .i64 0)]] <|
 .seq (.n [.f 3 2 1,.l 4 3,.ll 5 4,.bi 6 .eql 5 0] <|
 .cond (.t 6)
  (.n [.build (some 7) [(.int .i64 0),(.str []),(.str []),(.str []),(.int .i64 0),(.int .i64 0)] [],.store 6 (.t 2) (.t 7)] <|
  .ret)
  (.skip)) <|
 .n [.f 8 2 1,.l 9 8,.f 10 2 1,.l 11 10,.ll 12 11,.bi 13 .sub 12 1,.ia 14 6 9 13,.load (some 15) false 6 true (.t 14),.store 6 (.t 2) (.t 15)] <|
 .ret
def e80:C :=
 .n [.box 1 71 (.t 0),.alloc 2 71 [(.int .i64 0),(.str []),.nils]] <|
 .n [.f 3 2 1,.l 4 3,.e 5 8 65 [.t 4],.f 6 2 1,.store 1 (.t 6) (.t 5)] <|
 .n [.load (some 7) false 3 true (.t 1),.store 3 (.t 2) (.t 7)] <|
 .ret
def e81:C :=
 .n [.box 2 53 (.t 0),.box 3 9 (.t 1),.mov (some 4) (.k .nils)] <|
 .n [.mkv 10 9 1 [.s [97,108,108]],.alloc 5 34 [.nils],.store 1 (.t 5) (.t 10)] <|
 .n [.l 11 3,.c 12 109 [.t 11],.alloc 6 4 [(.bool false)],.store 1 (.t 6) (.t 12)] <|
 .seq (.n [.l 13 6] <|
 .cond (.t 13)
  (.o [.l 14 5,.mkl (some 15) 1 [.s [117,115,101,114,115]],.app 16 9 1 (.t 14) (.t 15),.store 1 (.t 5) (.t 16)])
  (.skip)) <|
 .seq (.n [.mov (some 7) (.k (.bool true))] <|
 .block 0 <|
  .loop <|
   .seq (.n [.m 17 7] <|
   .cond (.t 17)
    (.skip)
    (.exit 0)) <|
   .block 1 <|
    .n [.mov (some 7) (.k (.bool false))] <|
    .n [.f 18 0 2,.l 19 18,.ll 20 19,.mov (some 21) (.i 0)] <|
    .block 2 <|
     .loop <|
      .n [.b 22 .lss 21 20] <|
      .seq (.cond (.t 22)
       (.skip)
       (.exit 2)) <|
      .seq (.block 3 <|
       .n [.ia 23 2 19 21,.load (some 24) false 2 true (.t 23),.alloc 9 116 [(.str []),.nils],.store 2 (.t 9) (.t 24)] <|
       .seq (.n [.l 25 5,.f 26 0 9,.l 27 26,.call (some 28) false 121 [.t 25,.t 27]] <|
       .cond (.t 28)
        (.exit 3)
        (.skip)) <|
       .n [.f 29 1 9,.l 30 29,.clos (some 31) 123 [.t 6,.t 3,.t 5],.call (some 32) false 122 [.t 30,.t 31]] <|
       .cond (.t 32)
        (.n [.l 33 5,.f 34 0 9,.l 35 34,.mkl (some 36) 1 [.t 35],.app 37 9 1 (.t 33) (.t 36),.store 1 (.t 5) (.t 37)] <|
        .o [.mov (some 7) (.k (.bool true))])
        (.skip)) <|
      .o [.bi 38 .add 21 1,.m 21 38]) <|
 .n [.l 39 5,.e 40 42 124 [.t 39]] <|
 .n [.l 41 5,.m 4 41] <|
 .ret
def e82:C :=
 .n [.box 4 53 (.t 0),.box 7 29 (.t 3),.mov (some 8) (.k (.bool false))] <|
 .seq (.seq (.ops false [⟨none,[.load (some 15) false 2 true (.t 7),.c 16 59 [.t 15],.un (some 17) .not (.t 16),.m 18 17]⟩,
  ⟨some (18,false),[.m 19 2,.bi 20 .lss 19 1]⟩,
  ⟨none,[.pt 21 18 20,.m 22 21]⟩,
  ⟨some (22,false),[.m 23 2,.bi 24 .gtr 23 5]⟩,
  ⟨none,[.pt 25 22 24]⟩]) <|
 .cond (.t 25)
  (.n [.mov (some 8) (.k (.bool false))] <|
  .ret)
  (.skip)) <|
 .seq (.n [.load (some 26) false 2 true (.t 7),.c 27 125 [.t 26],.ll 28 27,.mov (some 29) (.i 0)] <|
 .block 0 <|
  .loop <|
   .n [.b 30 .lss 29 28] <|
   .seq (.cond (.t 30)
    (.skip)
    (.exit 0)) <|
   .seq (.block 1 <|
    .n [.ia 31 3 27 29,.load (some 32) false 3 true (.t 31),.alloc 10 107 [(.int .i64 0),(.int .i64 0),(.str [])],.store 3 (.t 10) (.t 32)] <|
    .n [.mov (some 11) (.k (.bool false)),.mov (some 12) (.k (.bool true))] <|
    .seq (.n [.f 33 1 4,.l 34 33,.ll 35 34,.mov (some 36) (.i 0)] <|
    .block 2 <|
     .loop <|
      .n [.b 37 .lss 36 35] <|
      .seq (.cond (.t 37)
       (.skip)
       (.exit 2)) <|
      .seq (.block 3 <|
       .n [.ia 38 6 34 36,.load (some 39) false 6 true (.t 38),.alloc 14 109 [(.bool false),(.int .i64 0),(.str []),(.int .i64 0),(.int .i64 0),(.str [])],.store 6 (.t 14) (.t 39)] <|
       .seq (.ops false [⟨none,[.f 40 1 14,.l 41 40,.m 42 2,.b 43 .eql 41 42,.m 44 43]⟩,
        ⟨some (44,true),[.m 45 1,.f 46 2 14,.l 47 46,.c 48 121 [.t 45,.t 47]]⟩,
        ⟨none,[.pf 49 44 48,.m 50 49]⟩,
        ⟨some (50,true),[.f 51 3 14,.load (some 52) false 3 true (.t 51),.load (some 53) false 3 true (.t 10),.c 54 126 [.t 52,.t 53]]⟩,
        ⟨none,[.pf 55 50 54]⟩]) <|
       .cond (.t 55)
        (.ops true [⟨none,[.m 56 12,.m 57 56]⟩,
         ⟨some (57,true),[.f 58 0 14,.l 59 58]⟩,
         ⟨none,[.pf 60 57 59,.mov (some 11) (.k (.bool true)),.m 12 60]⟩])
        (.skip)) <|
      .o [.bi 61 .add 36 1,.m 36 61]) <|
    .n [.m 62 11] <|
    .cond (.t 62)
     (.n [.m 63 12,.m 8 63] <|
     .ret)
     (.skip)) <|
   .o [.bi 64 .add 29 1,.m 29 64]) <|
 .n [.mov (some 8) (.k (.bool false))] <|
 .ret
def e83:C :=
 .n [.box 3 29 (.t 1),.mov (some 4) (.i 0)] <|
 .seq (.n [.mov (some 5) (.i 0)] <|
 .block 0 <|
  .loop <|
   .seq (.n [.m 6 5,.m 7 0,.ll 8 7,.b 9 .lss 6 8] <|
   .cond (.t 9)
    (.skip)
    (.exit 0)) <|
   .seq (.block 1 <|
    .seq (.p [.m 12 0,.m 13 5,.ia 14 3 12 13,.f 15 0 14,.load (some 16) false 2 true (.t 15),.load (some 17) false 2 true (.t 3),.eqA (some 18) false [0,1] (.t 16) (.t 17)]) <|
    .cond (.t 18)
     (.n [.m 19 5,.m 4 19] <|
     .ret)
     (.skip)) <|
   .o [.m 10 5,.bi 11 .add 10 1,.m 5 11]) <|
 .n [.mov (some 4) (.k (.int .i64 (-1)))] <|
 .ret
def e84:C :=
 .n [.box 1 71 (.t 0),.alloc 2 42 [(.int .i64 0),(.str []),(.str []),(.str []),(.int .i64 0),(.int .i64 0)]] <|
 .seq (.n [.f 3 2 1,.l 4 3,.ll 5 4,.bi 6 .eql 5 0] <|
 .cond (.t 6)
  (.n [.build (some 7) [(.int .i64 0),(.str []),(.str []),(.str []),(.int .i64 0),(.int .i64 0)] [],.store 6 (.t 2) (.t 7)] <|
  .ret)
  (.skip)) <|
 .n [.f 8 2 1,.l 9 8,.f 10 2 1,.l 11 10,.ll 12 11,.bi 13 .sub 12 1,.ia 14 6 9 13,.load (some 15) false 6 true (.t 14),.store 6 (.t 2) (.t 15)] <|
 .ret
def e85:C :=
 .n [.mov (some 2) (.k .nils)] <|
 .n [.mkv 6 9 1 [],.m 3 6] <|
 .n [.mov (some 4) (.i 0)] <|
 .seq (.n [.mov (some 5) (.i 0)] <|
 .block 0 <|
  .loop <|
   .seq (.n [.m 7 5,.m 8 0,.ls 9 8,.b 10 .lss 7 9] <|
   .cond (.t 10)
    (.skip)
    (.exit 0)) <|
   .seq (.block 1 <|
    .n [.m 13 0,.m 14 5,.ix 15 13 14,.bin (some 16) .eql (.t 15) (.k (.int .u8 10))] <|
    .cond (.t 16)
     (.n [.m 17 3,.m 18 0,.m 19 4,.m 20 5,.slcS (some 21) (.t 18) (some (.t 19)) (some (.t 20)),.mkl (some 22) 1 [.t 21],.app 23 9 1 (.t 17) (.t 22),.m 3 23] <|
     .o [.m 24 5,.bi 25 .add 24 1,.m 4 25])
     (.skip)) <|
   .o [.m 11 5,.bi 12 .add 11 1,.m 5 12]) <|
 .n [.m 26 3,.m 27 0,.m 28 4,.slcS (some 29) (.t 27) (some (.t 28)) none,.mkl (some 30) 1 [.t 29],.app 31 9 1 (.t 26) (.t 30),.m 2 31] <|
 .ret
def e86:C :=
 .n [.box 2 53 (.t 0),.alloc 4 53 [.nils,.nils,.nils],.mov (some 5) (.k (.bool false))] <|
 .n [.m 12 1,.c 13 127 [.t 12],.m 6 13] <|
 .seq (.seq (.ops false [⟨none,[.m 14 6,.ll 15 14,.bi 16 .eql 15 0,.m 17 16]⟩,
  ⟨some (17,false),[.m 18 6,.iadr (some 19) 1 (.t 18) (.i 0),.l 20 19,.idx (some 21) (.t 20) (.i 0),.bin (some 22) .eql (.t 21) (.k (.int .u8 35))]⟩,
  ⟨none,[.pt 23 17 22]⟩]) <|
 .cond (.t 23)
  (.n [.load (some 24) false 3 true (.t 2),.store 3 (.t 4) (.t 24),.mov (some 5) (.k (.bool true))] <|
  .ret)
  (.skip)) <|
 .seq (.n [.m 25 6,.iadr (some 26) 1 (.t 25) (.i 0),.l 27 26] <|
 .block 0 <|
  .n [.bin (some 29) .eql (.t 27) (.s [103,114,111,117,112]),.m 28 29] <|
  .cond (.t 28)
   (.seq (.n [.m 30 6,.ll 31 30,.bi 32 .lss 31 2] <|
   .cond (.t 32)
    (.n [.load (some 33) false 3 true (.t 2),.store 3 (.t 4) (.t 33),.mov (some 5) (.k (.bool false))] <|
    .ret)
    (.skip)) <|
   .seq (.p [.f 34 0 2,.l 35 34,.appl 36 116 2 (.t 35),.m 37 6,.iadr (some 38) 1 (.t 37) (.i 1),.l 39 38,.m 40 6,.slc (some 41) 1 (.t 40) (some (.i 2)) none,.appl 42 9 1 (.t 41),.build (some 43) [(.str []),.nils] [(0,1,(.t 39)),(1,1,(.t 42))],.mkl (some 44) 2 [.t 43],.app 45 116 2 (.t 36) (.t 44),.f 46 0 2,.store 1 (.t 46) (.t 45)]) <|
   .n [.load (some 47) false 3 true (.t 2),.store 3 (.t 4) (.t 47),.mov (some 5) (.k (.bool true))] <|
   .ret)
   (.seq (.n [.bin (some 49) .eql (.t 27) (.s [97,108,108,111,119]),.m 48 49] <|
   .cond (.t 48)
    (.skip)
    (.o [.bin (some 50) .eql (.t 27) (.s [100,101,110,121]),.m 48 50])) <|
   .cond (.t 48)
    (.seq (.seq (.ops false [⟨none,[.m 51 6,.ll 52 51,.bi 53 .lss 52 4,.m 54 53]⟩,
     ⟨some (54,false),[.m 55 6,.iadr (some 56) 1 (.t 55) (.i 1),.l 57 56,.c 58 128 [.t 57],.bi 59 .eql 58 0]⟩,
     ⟨none,[.pt 60 54 59]⟩]) <|
    .cond (.t 60)
     (.n [.load (some 61) false 3 true (.t 2),.store 3 (.t 4) (.t 61),.mov (some 5) (.k (.bool false))] <|
     .ret)
     (.skip)) <|
    .n [.m 63 1,.c 64 130 [.t 63,.i 3],.c 65 129 [.t 64],.m 62 65,.x 66 0 62,.x 67 1 62,.alloc 7 107 [(.int .i64 0),(.int .i64 0),(.str [])],.store 3 (.t 7) (.t 66),.m 8 67] <|
    .seq (.p [.f 68 1 2,.l 69 68,.appl 70 109 6 (.t 69),.m 71 6,.iadr (some 72) 1 (.t 71) (.i 0),.l 73 72,.bin (some 74) .eql (.t 73) (.s [97,108,108,111,119]),.m 75 6,.iadr (some 76) 1 (.t 75) (.i 1),.l 77 76,.c 78 128 [.t 77],.m 79 6,.iadr (some 80) 1 (.t 79) (.i 2),.l 81 80,.load (some 82) false 3 true (.t 7),.build (some 83) [(.bool false),(.int .i64 0),(.str []),(.int .i64 0),(.int .i64 0),(.str [])] [(0,1,(.t 74)),(1,1,(.t 78)),(2,1,(.t 81)),(3,3,(.t 82))],.mkl (some 84) 6 [.t 83],.app 85 109 6 (.t 70) (.t 84),.f 86 1 2,.store 1 (.t 86) (.t 85)]) <|
    .n [.load (some 87) false 3 true (.t 2),.m 88 8,.store 3 (.t 4) (.t 87),.m 5 88] <|
    .ret)
    (.seq (.n [.bin (some 90) .eql (.t 27) (.s [103,117,97,114,100]),.m 89 90] <|
    .cond (.t 89)
     (.skip)
     (.o [.bin (some 91) .eql (.t 27) (.s [115,116,114,105,99,116]),.m 89 91])) <|
    .cond (.t 89)
     (.seq (.n [.m 92 6,.ll 93 92,.bi 94 .lss 93 3] <|
     .cond (.t 94)
      (.n [.load (some 95) false 3 true (.t 2),.store 3 (.t 4) (.t 95),.mov (some 5) (.k (.bool false))] <|
      .ret)
      (.skip)) <|
     .n [.m 97 1,.c 98 130 [.t 97,.i 2],.c 99 131 [.t 98],.m 96 99,.x 100 0 96,.x 101 1 96,.x 102 2 96,.alloc 9 29 [(.int .i64 0),(.str [])],.store 2 (.t 9) (.t 100),.m 10 101,.m 11 102] <|
     .seq (.p [.f 103 2 2,.l 104 103,.appl 105 129 5 (.t 104),.m 106 6,.iadr (some 107) 1 (.t 106) (.i 0),.l 108 107,.bin (some 109) .eql (.t 108) (.s [115,116,114,105,99,116]),.m 110 6,.iadr (some 111) 1 (.t 110) (.i 1),.l 112 111,.load (some 113) false 2 true (.t 9),.m 114 10,.build (some 115) [(.bool false),(.str []),(.int .i64 0),(.str []),(.str [])] [(0,1,(.t 109)),(1,1,(.t 112)),(2,2,(.t 113)),(4,1,(.t 114))],.mkl (some 116) 5 [.t 115],.app 117 129 5 (.t 105) (.t 116),.f 118 2 2,.store 1 (.t 118) (.t 117)]) <|
     .n [.load (some 119) false 3 true (.t 2),.m 120 11,.store 3 (.t 4) (.t 119),.m 5 120] <|
     .ret)
     (.skip)))) <|
 .n [.load (some 121) false 3 true (.t 2),.store 3 (.t 4) (.t 121),.mov (some 5) (.k (.bool false))] <|
 .ret
def e87:C :=
 .n [.box 1 53 (.t 0),.mov (some 2) (.i 0)] <|
 .seq (.seq (.ops false [⟨none,[.f 9 0 1,.l 10 9,.ll 11 10,.bi 12 .gtr 11 24,.m 13 12]⟩,
  ⟨some (13,false),[.f 14 1 1,.l 15 14,.ll 16 15,.bi 17 .gtr 16 64]⟩,
  ⟨none,[.pt 18 13 17,.m 19 18]⟩,
  ⟨some (19,false),[.f 20 2 1,.l 21 20,.ll 22 21,.bi 23 .gtr 22 64]⟩,
  ⟨none,[.pt 24 19 23]⟩]) <|
 .cond (.t 24)
  (.n [.mov (some 2) (.i 3)] <|
  .ret)
  (.skip)) <|
 .seq (.n [.mov (some 3) (.i 0)] <|
 .block 0 <|
  .loop <|
   .seq (.n [.m 25 3,.f 26 0 1,.l 27 26,.ll 28 27,.b 29 .lss 25 28] <|
   .cond (.t 29)
    (.skip)
    (.exit 0)) <|
   .seq (.block 1 <|
    .n [.f 32 0 1,.l 33 32,.m 34 3,.c 35 132 [.t 33,.t 34],.m 4 35] <|
    .n [.m 36 4,.bi 37 .neq 36 0] <|
    .cond (.t 37)
     (.n [.m 38 4,.m 2 38] <|
     .ret)
     (.skip)) <|
   .o [.m 30 3,.bi 31 .add 30 1,.m 3 31]) <|
 .seq (.n [.mov (some 5) (.i 0)] <|
 .block 2 <|
  .loop <|
   .seq (.n [.m 39 5,.f 40 1 1,.l 41 40,.ll 42 41,.b 43 .lss 39 42] <|
   .cond (.t 43)
    (.skip)
    (.exit 2)) <|
   .seq (.block 3 <|
    .n [.f 46 1 1,.l 47 46,.m 48 5,.ia 49 6 47 48,.load (some 50) false 6 true (.t 49),.alloc 6 109 [(.bool false),(.int .i64 0),(.str []),(.int .i64 0),(.int .i64 0),(.str [])],.store 6 (.t 6) (.t 50)] <|
    .block 4 <|
     .seq (.ops false [⟨none,[.f 52 1 6,.l 53 52,.bi 54 .lss 53 1,.m 55 54]⟩,
      ⟨some (55,false),[.f 56 1 6,.l 57 56,.bi 58 .gtr 57 5]⟩,
      ⟨none,[.pt 59 55 58,.m 51 59]⟩]) <|
     .cond (.t 51)
      (.n [.mov (some 2) (.i 2)] <|
      .ret)
      (.n [.f 61 0 1,.l 62 61,.f 63 2 6,.l 64 63,.c 65 133 [.t 62,.t 64],.un (some 66) .not (.t 65),.m 60 66] <|
      .cond (.t 60)
       (.n [.mov (some 2) (.i 4)] <|
       .ret)
       (.n [.f 68 3 6,.load (some 69) false 3 true (.t 68),.c 70 134 [.t 69],.un (some 71) .not (.t 70),.m 67 71] <|
       .cond (.t 67)
        (.n [.mov (some 2) (.i 7)] <|
        .ret)
        (.skip)))) <|
   .o [.m 44 5,.bi 45 .add 44 1,.m 5 45]) <|
 .seq (.n [.mov (some 7) (.i 0)] <|
 .block 5 <|
  .loop <|
   .seq (.n [.m 72 7,.f 73 2 1,.l 74 73,.ll 75 74,.b 76 .lss 72 75] <|
   .cond (.t 76)
    (.skip)
    (.exit 5)) <|
   .seq (.block 6 <|
    .n [.f 79 2 1,.l 80 79,.m 81 7,.ia 82 5 80 81,.load (some 83) false 5 true (.t 82),.alloc 8 129 [(.bool false),(.str []),(.int .i64 0),(.str []),(.str [])],.store 5 (.t 8) (.t 83)] <|
    .block 7 <|
     .n [.f 85 0 1,.l 86 85,.f 87 1 8,.l 88 87,.c 89 133 [.t 86,.t 88],.un (some 90) .not (.t 89),.m 84 90] <|
     .cond (.t 84)
      (.n [.mov (some 2) (.i 4)] <|
      .ret)
      (.seq (.ops false [⟨none,[.f 92 2 8,.load (some 93) false 2 true (.t 92),.c 94 47 [.t 93],.un (some 95) .not (.t 94),.m 96 95]⟩,
       ⟨some (96,false),[.f 97 4 8,.l 98 97,.c 99 135 [.t 98],.un (some 100) .not (.t 99)]⟩,
       ⟨none,[.pt 101 96 100,.m 91 101]⟩]) <|
      .cond (.t 91)
       (.n [.mov (some 2) (.i 7)] <|
       .ret)
       (.skip))) <|
   .o [.m 77 7,.bi 78 .add 77 1,.m 7 78]) <|
 .n [.mov (some 2) (.i 0)] <|
 .ret
def e88:C :=
 .n [.mov (some 6) (.i 0)] <|
 .seq (.n [.m 8 2,.m 7 8] <|
 .block 0 <|
  .loop <|
   .seq (.n [.m 9 7,.m 10 1,.ls 11 10,.b 12 .add 9 11,.m 13 0,.ls 14 13,.b 15 .leq 12 14] <|
   .cond (.t 15)
    (.skip)
    (.exit 0)) <|
   .seq (.block 1 <|
    .n [.m 18 0,.m 19 7,.m 20 7,.m 21 1,.ls 22 21,.b 23 .add 20 22,.slcS (some 24) (.t 18) (some (.t 19)) (some (.t 23)),.m 25 1,.b 26 .eql 24 25] <|
    .cond (.t 26)
     (.n [.m 27 7,.m 6 27] <|
     .ret)
     (.skip)) <|
   .o [.m 16 7,.bi 17 .add 16 1,.m 7 17]) <|
 .n [.mov (some 6) (.k (.int .i64 (-1)))] <|
 .ret
def e89:C :=
 .n [.mov (some 2) (.k .nils)] <|
 .n [.mkv 5 9 1 [.s []],.m 3 5] <|
 .seq (.n [.mov (some 4) (.i 0)] <|
 .block 0 <|
  .loop <|
   .seq (.n [.m 6 4,.m 7 0,.ls 8 7,.b 9 .lss 6 8] <|
   .cond (.t 9)
    (.skip)
    (.exit 0)) <|
   .seq (.block 1 <|
    .n [.m 12 0,.m 13 4,.ix 14 12 13,.bin (some 15) .eql (.t 14) (.k (.int .u8 47))] <|
    .cond (.t 15)
     (.o [.m 16 3,.mkl (some 17) 1 [.s []],.app 18 9 1 (.t 16) (.t 17),.m 3 18])
     (.p [.m 19 3,.m 20 3,.ll 21 20,.bi 22 .sub 21 1,.m 23 3,.m 24 3,.ll 25 24,.bi 26 .sub 25 1,.ia 27 1 23 26,.l 28 27,.m 29 0,.m 30 4,.m 31 4,.bi 32 .add 31 1,.slcS (some 33) (.t 29) (some (.t 30)) (some (.t 32)),.b 34 .add 28 33,.ia 35 1 19 22,.store 1 (.t 35) (.t 34)])) <|
   .o [.m 10 4,.bi 11 .add 10 1,.m 4 11]) <|
 .n [.m 36 3,.m 2 36] <|
 .ret
def e90:C :=
 .n [.mov (some 2) (.i 0),.mov (some 3) (.i 0)] <|
 .n [.m 7 0,.c 8 88 [.t 7,.s [58],.i 0],.m 4 8] <|
 .seq (.n [.m 9 4,.bi 10 .lss 9 0] <|
 .cond (.t 10)
  (.n [.mov (some 2) (.i 0),.mov (some 3) (.i 0)] <|
  .ret)
  (.skip)) <|
 .n [.m 11 0,.m 12 4,.slcS (some 13) (.t 11) none (some (.t 12)),.m 5 13] <|
 .seq (.seq (.ops false [⟨none,[.m 14 5,.ls 15 14,.bi 16 .gtr 15 0,.m 17 16]⟩,
  ⟨some (17,true),[.m 18 5,.m 19 5,.ls 20 19,.bi 21 .sub 20 1,.ix 22 18 21,.bin (some 23) .eql (.t 22) (.k (.int .u8 32))]⟩,
  ⟨none,[.pf 24 17 23]⟩]) <|
 .cond (.t 24)
  (.o [.m 25 5,.m 26 5,.ls 27 26,.bi 28 .sub 27 1,.slcS (some 29) (.t 25) none (some (.t 28)),.m 5 29])
  (.skip)) <|
 .seq (.n [.mov (some 6) (.i 1)] <|
 .block 0 <|
  .loop <|
   .seq (.n [.m 30 6,.bi 31 .lss 30 6] <|
   .cond (.t 31)
    (.skip)
    (.exit 0)) <|
   .seq (.block 1 <|
    .n [.m 34 5,.m 35 6,.c 36 137 [.t 35],.c 37 136 [.t 34,.t 36]] <|
    .cond (.t 37)
     (.n [.m 38 6,.m 39 4,.m 2 38,.m 3 39] <|
     .ret)
     (.skip)) <|
   .o [.m 32 6,.bi 33 .add 32 1,.m 6 33]) <|
 .n [.mov (some 2) (.i 0),.mov (some 3) (.i 0)] <|
 .ret
def e91:C :=
 .n [.box 1 29 (.t 0),.mov (some 2) (.k .nils)] <|
 .seq (.n [.load (some 5) false 2 true (.t 1),.c 6 47 [.t 5],.un (some 7) .not (.t 6)] <|
 .cond (.t 7)
  (.n [.mov (some 2) (.k .nils)] <|
  .ret)
  (.skip)) <|
 .n [.mov (some 3) (.k .nils)] <|
 .seq (.n [.mov (some 4) (.i 0)] <|
 .block 0 <|
  .loop <|
   .seq (.n [.m 8 4,.f 9 1 1,.l 10 9,.ls 11 10,.b 12 .lss 8 11] <|
   .cond (.t 12)
    (.skip)
    (.exit 0)) <|
   .seq (.block 1 <|
    .n [.f 15 1 1,.l 16 15,.m 17 4,.ix 18 16 17,.bin (some 19) .eql (.t 18) (.k (.int .u8 47))] <|
    .cond (.t 19)
     (.p [.m 20 3,.f 21 0 1,.l 22 21,.f 23 1 1,.l 24 23,.m 25 4,.slcS (some 26) (.t 24) none (some (.t 25)),.build (some 27) [(.int .i64 0),(.str [])] [(0,1,(.t 22)),(1,1,(.t 26))],.mkl (some 28) 2 [.t 27],.app 29 29 2 (.t 20) (.t 28),.m 3 29])
     (.skip)) <|
   .o [.m 13 4,.bi 14 .add 13 1,.m 4 14]) <|
 .n [.m 30 3,.m 2 30] <|
 .ret
def e92:C :=
 .n [.box 1 27 (.t 0),.mov (some 2) (.k (.bool false))] <|
 .seq (.seq (.ops false [⟨none,[.f 11 2 1,.l 12 11,.ll 13 12,.bi 14 .gtr 13 200,.m 15 14]⟩,
  ⟨some (15,false),[.f 16 3 1,.l 17 16,.ll 18 17,.bi 19 .gtr 18 100]⟩,
  ⟨none,[.pt 20 15 19]⟩]) <|
 .cond (.t 20)
  (.n [.mov (some 2) (.k (.bool false))] <|
  .ret)
  (.skip)) <|
 .seq (.n [.mov (some 3) (.i 0)] <|
 .block 0 <|
  .loop <|
   .seq (.n [.m 21 3,.f 22 2 1,.l 23 22,.ll 24 23,.b 25 .lss 21 24] <|
   .cond (.t 25)
    (.skip)
    (.exit 0)) <|
   .seq (.block 1 <|
    .n [.f 28 2 1,.l 29 28,.m 30 3,.ia 31 3 29 30,.load (some 32) false 3 true (.t 31),.alloc 4 71 [(.int .i64 0),(.str []),.nils],.store 3 (.t 4) (.t 32)] <|
    .seq (.ops true [⟨none,[.f 33 0 4,.load (some 34) false 2 true (.t 33),.c 35 47 [.t 34],.un (some 36) .not (.t 35),.m 37 36]⟩,
     ⟨some (37,false),[.load (some 38) false 8 true (.t 1),.f 39 2 4,.l 40 39,.c 41 138 [.t 38,.t 40],.un (some 42) .not (.t 41)]⟩,
     ⟨none,[.pt 43 37 42,.m 44 43]⟩,
     ⟨some (44,false),[.m 45 3,.bi 46 .gtr 45 0,.m 47 46]⟩,
     ⟨some (47,true),[.f 48 2 1,.l 49 48,.m 50 3,.bi 51 .sub 50 1,.ia 52 3 49 51,.f 53 0 52,.load (some 54) false 2 true (.t 53),.f 55 0 4,.load (some 56) false 2 true (.t 55),.c 57 139 [.t 54,.t 56],.bi 58 .geq 57 0]⟩,
     ⟨some (44,false),[.pf 59 47 58]⟩,
     ⟨none,[.pt 60 44 59]⟩]) <|
    .cond (.t 60)
     (.n [.mov (some 2) (.k (.bool false))] <|
     .ret)
     (.skip)) <|
   .o [.m 26 3,.bi 27 .add 26 1,.m 3 27]) <|
 .seq (.n [.mov (some 5) (.i 0)] <|
 .block 2 <|
  .loop <|
   .seq (.n [.m 61 5,.f 62 3 1,.l 63 62,.ll 64 63,.b 65 .lss 61 64] <|
   .cond (.t 65)
    (.skip)
    (.exit 2)) <|
   .seq (.block 3 <|
    .seq (.ops true [⟨none,[.f 68 3 1,.l 69 68,.m 70 5,.ia 71 3 69 70,.f 72 0 71,.load (some 73) false 2 true (.t 72),.c 74 47 [.t 73],.un (some 75) .not (.t 74),.m 76 75]⟩,
     ⟨some (76,false),[.load (some 77) false 8 true (.t 1),.f 78 3 1,.l 79 78,.m 80 5,.ia 81 3 79 80,.f 82 2 81,.l 83 82,.c 84 138 [.t 77,.t 83],.un (some 85) .not (.t 84)]⟩,
     ⟨none,[.pt 86 76 85]⟩]) <|
    .cond (.t 86)
     (.n [.mov (some 2) (.k (.bool false))] <|
     .ret)
     (.skip)) <|
   .o [.m 66 5,.bi 67 .add 66 1,.m 5 67]) <|
 .seq (.seq (.p [.load (some 88) false 8 true (.t 1),.c 89 105 [],.c 90 42 [.t 88,.t 89],.m 87 90,.x 91 0 87,.x 92 1 87,.alloc 6 71 [(.int .i64 0),(.str []),.nils],.store 3 (.t 6) (.t 91),.m 7 92]) <|
 .n [.m 93 7] <|
 .cond (.t 93)
  (.n [.load (some 95) false 3 true (.t 6),.c 96 84 [.t 95],.field (some 97) 3 1 false (.t 96),.c 98 46 [.t 97],.m 94 98,.x 99 0 94,.x 100 1 94,.x 101 2 94,.alloc 8 53 [.nils,.nils,.nils],.store 3 (.t 8) (.t 99),.m 9 100,.m 10 101] <|
  .n [.m 102 10,.bi 103 .eql 102 0,.m 2 103] <|
  .ret)
  (.skip)) <|
 .n [.mov (some 2) (.k (.bool true))] <|
 .ret
def e93:C :=
 .n [.box 1 27 (.t 0),.mov (some 2) (.k (.bool false))] <|
 .seq (.seq (.ops false [⟨none,[.f 6 4 1,.l 7 6,.ll 8 7,.bi 9 .gtr 8 40,.m 10 9]⟩,
  ⟨some (10,false),[.f 11 5 1,.l 12 11,.bi 13 .lss 12 0]⟩,
  ⟨none,[.pt 14 10 13,.m 15 14]⟩,
  ⟨some (15,false),[.f 16 5 1,.l 17 16,.bi 18 .gtr 17 1073741824]⟩,
  ⟨none,[.pt 19 15 18]⟩]) <|
 .cond (.t 19)
  (.n [.mov (some 2) (.k (.bool false))] <|
  .ret)
  (.skip)) <|
 .n [.mov (some 3) (.i 0)] <|
 .seq (.n [.mov (some 4) (.i 0)] <|
 .block 0 <|
  .loop <|
   .seq (.n [.m 20 4,.f 21 4 1,.l 22 21,.ll 23 22,.b 24 .lss 20 23] <|
   .cond (.t 24)
    (.skip)
    (.exit 0)) <|
   .seq (.block 1 <|
    .n [.f 27 4 1,.l 28 27,.m 29 4,.ia 30 8 28 29,.load (some 31) false 8 true (.t 30),.alloc 5 194 [(.int .i64 0),(.str []),(.str []),(.int .i64 0),(.str []),(.int .i64 0),(.str []),(.int .i64 0)],.store 8 (.t 5) (.t 31)] <|
    .seq (.seq (.ops false [⟨none,[.f 32 0 5,.l 33 32,.m 34 3,.b 35 .leq 33 34,.m 36 35]⟩,
     ⟨some (36,false),[.f 37 0 5,.l 38 37,.f 39 5 1,.l 40 39,.b 41 .gtr 38 40]⟩,
     ⟨none,[.pt 42 36 41,.m 43 42]⟩,
     ⟨some (43,false),[.f 44 1 5,.l 45 44,.c 46 140 [.t 45],.un (some 47) .not (.t 46)]⟩,
     ⟨none,[.pt 48 43 47,.m 49 48]⟩,
     ⟨some (49,false),[.f 50 3 5,.load (some 51) false 2 true (.t 50),.c 52 47 [.t 51],.un (some 53) .not (.t 52)]⟩,
     ⟨none,[.pt 54 49 53,.m 55 54]⟩,
     ⟨some (55,false),[.f 56 5 5,.l 57 56,.bi 58 .lss 57 0]⟩,
     ⟨none,[.pt 59 55 58,.m 60 59]⟩,
     ⟨some (60,false),[.f 61 5 5,.l 62 61,.bi 63 .gtr 62 40]⟩,
     ⟨none,[.pt 64 60 63,.m 65 64]⟩,
     ⟨some (65,false),[.f 66 6 5,.l 67 66,.ls 68 67,.bi 69 .gtr 68 8192]⟩,
     ⟨none,[.pt 70 65 69,.m 71 70]⟩,
     ⟨some (71,false),[.f 72 2 5,.l 73 72,.ls 74 73,.bi 75 .gtr 74 200]⟩,
     ⟨none,[.pt 76 71 75,.m 77 76]⟩,
     ⟨some (77,false),[.f 78 7 5,.l 79 78,.bi 80 .lss 79 0]⟩,
     ⟨none,[.pt 81 77 80,.m 82 81]⟩,
     ⟨some (82,false),[.f 83 7 5,.l 84 83,.f 85 1 1,.l 86 85,.b 87 .gtr 84 86]⟩,
     ⟨none,[.pt 88 82 87]⟩]) <|
    .cond (.t 88)
     (.n [.mov (some 2) (.k (.bool false))] <|
     .ret)
     (.skip)) <|
    .o [.f 89 0 5,.l 90 89,.m 3 90]) <|
   .o [.m 25 4,.bi 26 .add 25 1,.m 4 26]) <|
 .n [.mov (some 2) (.k (.bool true))] <|
 .ret
def e94:C :=
 .n [.box 1 27 (.t 0),.mov (some 2) (.k (.bool false))] <|
 .seq (.seq (.ops false [⟨none,[.f 7 6 1,.l 8 7,.ll 9 8,.bi 10 .gtr 9 100,.m 11 10]⟩,
  ⟨some (11,false),[.f 12 7 1,.l 13 12,.ll 14 13,.bi 15 .gtr 14 60]⟩,
  ⟨none,[.pt 16 11 15]⟩]) <|
 .cond (.t 16)
  (.n [.mov (some 2) (.k (.bool false))] <|
  .ret)
  (.skip)) <|
 .seq (.n [.mov (some 3) (.i 0)] <|
 .block 0 <|
  .loop <|
   .seq (.n [.m 17 3,.f 18 6 1,.l 19 18,.ll 20 19,.b 21 .lss 17 20] <|
   .cond (.t 21)
    (.skip)
    (.exit 0)) <|
   .seq (.block 1 <|
    .n [.f 24 6 1,.l 25 24,.m 26 3,.ia 27 3 25 26,.load (some 28) false 3 true (.t 27),.alloc 4 196 [(.str []),(.int .i64 0),(.str [])],.store 3 (.t 4) (.t 28)] <|
    .seq (.ops true [⟨none,[.f 29 0 4,.l 30 29,.c 31 51 [.t 30],.un (some 32) .not (.t 31),.m 33 32]⟩,
     ⟨some (33,false),[.f 34 1 4,.load (some 35) false 2 true (.t 34),.c 36 47 [.t 35],.un (some 37) .not (.t 36)]⟩,
     ⟨none,[.pt 38 33 37,.m 39 38]⟩,
     ⟨some (39,false),[.m 40 3,.bi 41 .gtr 40 0,.m 42 41]⟩,
     ⟨some (42,true),[.f 43 6 1,.l 44 43,.m 45 3,.bi 46 .sub 45 1,.ia 47 3 44 46,.load (some 48) false 3 true (.t 47),.load (some 49) false 3 true (.t 4),.c 50 141 [.t 48,.t 49],.un (some 51) .not (.t 50)]⟩,
     ⟨some (39,false),[.pf 52 42 51]⟩,
     ⟨none,[.pt 53 39 52]⟩]) <|
    .cond (.t 53)
     (.n [.mov (some 2) (.k (.bool false))] <|
     .ret)
     (.skip)) <|
   .o [.m 22 3,.bi 23 .add 22 1,.m 3 23]) <|
 .seq (.n [.mov (some 5) (.i 0)] <|
 .block 2 <|
  .loop <|
   .seq (.n [.m 54 5,.f 55 7 1,.l 56 55,.ll 57 56,.b 58 .lss 54 57] <|
   .cond (.t 58)
    (.skip)
    (.exit 2)) <|
   .seq (.block 3 <|
    .n [.f 61 7 1,.l 62 61,.m 63 5,.ia 64 2 62 63,.load (some 65) false 2 true (.t 64),.alloc 6 155 [(.str []),(.int .i64 0)],.store 2 (.t 6) (.t 65)] <|
    .seq (.ops true [⟨none,[.f 66 0 6,.l 67 66,.c 68 51 [.t 67],.un (some 69) .not (.t 68),.m 70 69]⟩,
     ⟨some (70,false),[.f 71 1 6,.l 72 71,.bi 73 .lss 72 1]⟩,
     ⟨none,[.pt 74 70 73,.m 75 74]⟩,
     ⟨some (75,false),[.f 76 1 6,.l 77 76,.f 78 0 1,.l 79 78,.b 80 .gtr 77 79]⟩,
     ⟨none,[.pt 81 75 80,.m 82 81]⟩,
     ⟨some (82,false),[.m 83 5,.bi 84 .gtr 83 0,.m 85 84]⟩,
     ⟨some (85,true),[.f 86 7 1,.l 87 86,.m 88 5,.bi 89 .sub 88 1,.ia 90 2 87 89,.f 91 0 90,.l 92 91,.f 93 0 6,.l 94 93,.b 95 .geq 92 94]⟩,
     ⟨some (82,false),[.pf 96 85 95]⟩,
     ⟨none,[.pt 97 82 96]⟩]) <|
    .cond (.t 97)
     (.n [.mov (some 2) (.k (.bool false))] <|
     .ret)
     (.skip)) <|
   .o [.m 59 5,.bi 60 .add 59 1,.m 5 60]) <|
 .n [.mov (some 2) (.k (.bool true))] <|
 .ret
def e95:C :=
 .n [.box 1 61 (.t 0),.mov (some 2) (.k (.bool false))] <|
 .seq (.ops false [⟨none,[.f 6 0 1,.l 7 6,.bi 8 .eql 7 1,.m 9 8]⟩,
  ⟨some (9,false),[.f 10 0 1,.l 11 10,.bi 12 .eql 11 9]⟩,
  ⟨none,[.pt 13 9 12,.m 3 13]⟩]) <|
 .seq (.ops false [⟨none,[.f 14 0 1,.l 15 14,.bi 16 .eql 15 4,.m 17 16]⟩,
  ⟨some (17,false),[.f 18 0 1,.l 19 18,.bi 20 .eql 19 6]⟩,
  ⟨none,[.pt 21 17 20,.m 22 21]⟩,
  ⟨some (22,false),[.f 23 0 1,.l 24 23,.bi 25 .eql 24 9]⟩,
  ⟨none,[.pt 26 22 25,.m 27 26]⟩,
  ⟨some (27,false),[.f 28 0 1,.l 29 28,.bi 30 .eql 29 10]⟩,
  ⟨none,[.pt 31 27 30,.m 4 31]⟩]) <|
 .seq (.ops false [⟨none,[.f 32 0 1,.l 33 32,.bi 34 .neq 33 6,.m 35 34]⟩,
  ⟨some (35,true),[.f 36 0 1,.l 37 36,.bi 38 .neq 37 10]⟩,
  ⟨none,[.pf 39 35 38,.m 5 39]⟩]) <|
 .seq (.seq (.ops false [⟨none,[.f 40 0 1,.l 41 40,.bi 42 .lss 41 1,.m 43 42]⟩,
  ⟨some (43,false),[.f 44 0 1,.l 45 44,.bi 46 .gtr 45 10]⟩,
  ⟨none,[.pt 47 43 46]⟩]) <|
 .cond (.t 47)
  (.n [.mov (some 2) (.k (.bool false))] <|
  .ret)
  (.skip)) <|
 .seq (.seq (.ops false [⟨none,[.m 48 3,.un (some 49) .not (.t 48),.m 50 49]⟩,
  ⟨some (50,true),[.f 51 2 1,.l 52 51,.bin (some 53) .neq (.t 52) (.s []),.m 54 53]⟩,
  ⟨some (54,false),[.f 55 7 1,.l 56 55,.bin (some 57) .neq (.t 56) (.s [])]⟩,
  ⟨some (50,true),[.pt 58 54 57]⟩,
  ⟨none,[.pf 59 50 58,.m 60 59]⟩,
  ⟨some (60,false),[.m 61 4,.un (some 62) .not (.t 61),.m 63 62]⟩,
  ⟨some (63,true),[.f 64 8 1,.l 65 64,.bi 66 .neq 65 0]⟩,
  ⟨some (60,false),[.pf 67 63 66]⟩,
  ⟨none,[.pt 68 60 67,.m 69 68]⟩,
  ⟨some (69,false),[.m 70 5,.un (some 71) .not (.t 70),.m 72 71]⟩,
  ⟨some (72,true),[.f 73 3 1,.load (some 74) false 2 true (.t 73),.build (some 75) [(.int .i64 0),(.str [])] [],.eqA (some 76) true [0,1] (.t 74) (.t 75)]⟩,
  ⟨some (69,false),[.pf 77 72 76]⟩,
  ⟨none,[.pt 78 69 77]⟩]) <|
 .cond (.t 78)
  (.n [.mov (some 2) (.k (.bool false))] <|
  .ret)
  (.skip)) <|
 .seq (.seq (.ops false [⟨none,[.f 79 0 1,.l 80 79,.bi 81 .eql 80 6,.m 82 81]⟩,
  ⟨some (82,true),[.f 83 1 1,.l 84 83,.bin (some 85) .neq (.t 84) (.s [])]⟩,
  ⟨none,[.pf 86 82 85]⟩]) <|
 .cond (.t 86)
  (.n [.mov (some 2) (.k (.bool false))] <|
  .ret)
  (.skip)) <|
 .seq (.ops false [⟨none,[.f 87 0 1,.l 88 87,.bi 89 .eql 88 4,.m 90 89]⟩,
  ⟨some (90,false),[.f 91 5 1,.load (some 92) false 2 true (.t 91),.build (some 93) [(.int .i64 0),(.str [])] [],.eqA (some 94) false [0,1] (.t 92) (.t 93)]⟩,
  ⟨none,[.pt 95 90 94,.m 96 95]⟩,
  ⟨some (96,true),[.f 97 0 1,.l 98 97,.bi 99 .eql 98 5,.m 100 99]⟩,
  ⟨some (100,false),[.f 101 9 1,.l 102 101,.ll 103 102,.bi 104 .eql 103 0]⟩,
  ⟨some (96,true),[.pt 105 100 104]⟩,
  ⟨none,[.pf 106 96 105,.m 2 106]⟩]) <|
 .ret
def e96:C :=
 .n [.box 1 61 (.t 0),.mov (some 2) (.k (.bool false))] <|
 .seq (.seq (.ops false [⟨none,[.f 3 0 1,.l 4 3,.bi 5 .neq 4 6,.m 6 5]⟩,
  ⟨some (6,true),[.f 7 0 1,.l 8 7,.bi 9 .neq 8 10]⟩,
  ⟨none,[.pf 10 6 9,.m 11 10]⟩,
  ⟨some (11,true),[.f 12 3 1,.load (some 13) false 2 true (.t 12),.c 14 47 [.t 13],.un (some 15) .not (.t 14)]⟩,
  ⟨none,[.pf 16 11 15,.m 17 16]⟩,
  ⟨some (17,false),[.f 18 1 1,.l 19 18,.c 20 142 [.t 19],.un (some 21) .not (.t 20)]⟩,
  ⟨none,[.pt 22 17 21]⟩]) <|
 .cond (.t 22)
  (.n [.mov (some 2) (.k (.bool false))] <|
  .ret)
  (.skip)) <|
 .seq (.n [.f 23 0 1,.l 24 23] <|
 .block 0 <|
  .seq (.n [.bi 26 .eql 24 7,.m 25 26] <|
  .cond (.t 25)
   (.skip)
   (.o [.bi 27 .eql 24 8,.m 25 27])) <|
  .cond (.t 25)
   (.n [.f 28 1 1,.l 29 28,.bin (some 30) .neq (.t 29) (.s []),.m 2 30] <|
   .ret)
   (.n [.bi 32 .eql 24 4,.m 31 32] <|
   .cond (.t 31)
    (.seq (.ops false [⟨none,[.f 33 5 1,.load (some 34) false 2 true (.t 33),.c 35 47 [.t 34],.m 36 35]⟩,
     ⟨some (36,true),[.f 37 8 1,.l 38 37,.bi 39 .eql 38 0,.m 40 39]⟩,
     ⟨some (40,false),[.f 41 8 1,.l 42 41,.bi 43 .eql 42 1]⟩,
     ⟨some (36,true),[.pt 44 40 43]⟩,
     ⟨none,[.pf 45 36 44,.m 2 45]⟩]) <|
    .ret)
    (.n [.bi 47 .eql 24 6,.m 46 47] <|
    .cond (.t 46)
     (.seq (.ops false [⟨none,[.f 48 8 1,.l 49 48,.bi 50 .geq 49 1,.m 51 50]⟩,
      ⟨some (51,true),[.f 52 8 1,.l 53 52,.bi 54 .leq 53 52596000]⟩,
      ⟨none,[.pf 55 51 54,.m 2 55]⟩]) <|
     .ret)
     (.n [.bi 57 .eql 24 9,.m 56 57] <|
     .cond (.t 56)
      (.seq (.ops false [⟨none,[.f 58 8 1,.l 59 58,.bi 60 .geq 59 0,.m 61 60]⟩,
       ⟨some (61,true),[.f 62 8 1,.l 63 62,.bi 64 .leq 63 40]⟩,
       ⟨none,[.pf 65 61 64,.m 2 65]⟩]) <|
      .ret)
      (.n [.bi 67 .eql 24 10,.m 66 67] <|
      .cond (.t 66)
       (.seq (.ops false [⟨none,[.f 68 8 1,.l 69 68,.bi 70 .geq 69 1,.m 71 70]⟩,
        ⟨some (71,true),[.f 72 8 1,.l 73 72,.bi 74 .leq 73 1073741824]⟩,
        ⟨none,[.pf 75 71 74,.m 2 75]⟩]) <|
       .ret)
       (.n [.bi 77 .eql 24 5,.m 76 77] <|
       .cond (.t 76)
        (.n [.f 78 9 1,.l 79 78,.c 80 143 [.t 79],.m 2 80] <|
        .ret)
        (.skip))))))) <|
 .n [.mov (some 2) (.k (.bool true))] <|
 .ret
def e97:C :=
 .n [.box 3 27 (.t 0),.box 4 61 (.t 1),.alloc 6 27 [(.int .i64 0),(.int .i64 0),.nils,.nils,.nils,(.int .i64 0),.nils,.nils],.mov (some 7) (.i 0)] <|
 .n [.f 11 1 4,.l 12 11,.f 13 2 4,.l 14 13,.f 15 7 4,.l 16 15,.f 17 1 3,.l 18 17,.m 19 2,.build (some 20) [(.int .i64 0),(.str []),(.str []),(.str []),(.int .i64 0),(.int .i64 0)] [(0,1,(.i 1)),(1,1,(.t 12)),(2,1,(.t 14)),(3,1,(.t 16)),(4,1,(.t 18)),(5,1,(.t 19))],.alloc 8 42 [(.int .i64 0),(.str []),(.str []),(.str []),(.int .i64 0),(.int .i64 0)],.store 6 (.t 8) (.t 20)] <|
 .n [.f 21 2 3,.l 22 21,.f 23 3 4,.load (some 24) false 2 true (.t 23),.c 25 83 [.t 22,.t 24],.m 9 25] <|
 .seq (.n [.m 26 9,.bi 27 .lss 26 0] <|
 .cond (.t 27)
  (.seq (.n [.f 28 2 3,.l 29 28,.ll 30 29,.bi 31 .geq 30 200] <|
  .cond (.t 31)
   (.n [.load (some 32) false 8 true (.t 3),.store 8 (.t 6) (.t 32),.mov (some 7) (.i 8)] <|
   .ret)
   (.skip)) <|
  .n [.f 33 2 3,.l 34 33,.f 35 3 4,.load (some 36) false 2 true (.t 35),.load (some 37) false 6 true (.t 8),.mkl (some 38) 6 [.t 37],.build (some 39) [(.int .i64 0),(.str []),.nils] [(0,2,(.t 36)),(2,1,(.t 38))],.c 40 144 [.t 34,.t 39],.f 41 2 3,.store 1 (.t 41) (.t 40)] <|
  .n [.load (some 42) false 8 true (.t 3),.store 8 (.t 6) (.t 42),.mov (some 7) (.i 0)] <|
  .ret)
  (.skip)) <|
 .n [.f 43 2 3,.l 44 43,.m 45 9,.ia 46 3 44 45,.f 47 2 46,.l 48 47,.m 10 48] <|
 .seq (.n [.m 49 10,.ll 50 49,.bi 51 .geq 50 40] <|
 .cond (.t 51)
  (.n [.load (some 52) false 8 true (.t 3),.store 8 (.t 6) (.t 52),.mov (some 7) (.i 8)] <|
  .ret)
  (.skip)) <|
 .n [.m 53 10,.ll 54 53,.bi 55 .add 54 1,.f 56 0 8,.store 1 (.t 56) (.t 55)] <|
 .n [.f 57 2 3,.l 58 57,.app 59 71 3 (.k .nils) (.t 58),.f 60 2 3,.store 1 (.t 60) (.t 59)] <|
 .seq (.p [.f 61 2 3,.ldo (some 62) 1 false (.t 61),.m 63 9,.m 64 10,.appl 65 42 6 (.t 64),.load (some 66) false 6 true (.t 8),.mkl (some 67) 6 [.t 66],.apq 68 42 6 (.t 65) (.t 67),.ia 69 3 62 63,.f 70 2 69,.store 1 (.t 70) (.t 68)]) <|
 .n [.load (some 71) false 8 true (.t 3),.store 8 (.t 6) (.t 71),.mov (some 7) (.i 0)] <|
 .ret
def e100:C :=
 .n [.box 3 27 (.t 0),.box 4 61 (.t 1),.alloc 6 27 [(.int .i64 0),(.int .i64 0),.nils,.nils,.nils,(.int .i64 0),.nils,.nils],.mov (some 7) (.i 0)] <|
 .n [.f 11 2 3,.l 12 11,.f 13 3 4,.load (some 14) false 2 true (.t 13),.c 15 83 [.t 12,.t 14],.m 8 15] <|
 .seq (.n [.m 16 8,.bi 17 .lss 16 0] <|
 .cond (.t 17)
  (.n [.load (some 18) false 8 true (.t 3),.store 8 (.t 6) (.t 18),.mov (some 7) (.i 4)] <|
  .ret)
  (.skip)) <|
 .seq (.n [.f 19 2 3,.l 20 19,.f 21 5 4,.load (some 22) false 2 true (.t 21),.c 23 83 [.t 20,.t 22],.bi 24 .geq 23 0] <|
 .cond (.t 24)
  (.n [.load (some 25) false 8 true (.t 3),.store 8 (.t 6) (.t 25),.mov (some 7) (.i 5)] <|
  .ret)
  (.skip)) <|
 .seq (.seq (.ops false [⟨none,[.f 26 8 4,.l 27 26,.bi 28 .eql 27 1,.m 29 28]⟩,
  ⟨some (29,true),[.f 30 2 3,.l 31 30,.ll 32 31,.bi 33 .geq 32 200]⟩,
  ⟨none,[.pf 34 29 33]⟩]) <|
 .cond (.t 34)
  (.n [.load (some 35) false 8 true (.t 3),.store 8 (.t 6) (.t 35),.mov (some 7) (.i 8)] <|
  .ret)
  (.skip)) <|
 .n [.f 36 2 3,.l 37 36,.m 38 8,.ia 39 3 37 38,.load (some 40) false 3 true (.t 39),.alloc 9 71 [(.int .i64 0),(.str []),.nils],.store 3 (.t 9) (.t 40)] <|
 .n [.f 41 5 4,.load (some 42) false 2 true (.t 41),.f 43 0 9,.store 2 (.t 43) (.t 42)] <|
 .seq (.p [.f 44 2 3,.l 45 44,.m 46 8,.c 47 145 [.t 45,.t 46],.load (some 48) false 3 true (.t 9),.c 49 144 [.t 47,.t 48],.f 50 2 3,.store 1 (.t 50) (.t 49)]) <|
 .seq (.n [.f 51 8 4,.l 52 51,.bi 53 .eql 52 1] <|
 .cond (.t 53)
  (.seq (.p [.f 54 1 4,.l 55 54,.f 56 5 4,.load (some 57) false 2 true (.t 56),.c 58 148 [.t 57],.f 59 1 3,.l 60 59,.m 61 2,.build (some 62) [(.int .i64 0),(.str []),(.str []),(.str []),(.int .i64 0),(.int .i64 0)] [(0,1,(.i 1)),(1,1,(.t 55)),(3,1,(.t 58)),(4,1,(.t 60)),(5,1,(.t 61))],.alloc 10 42 [(.int .i64 0),(.str []),(.str []),(.str []),(.int .i64 0),(.int .i64 0)],.store 6 (.t 10) (.t 62)]) <|
  .o [.f 63 2 3,.l 64 63,.f 65 3 4,.load (some 66) false 2 true (.t 65),.load (some 67) false 6 true (.t 10),.mkl (some 68) 6 [.t 67],.build (some 69) [(.int .i64 0),(.str []),.nils] [(0,2,(.t 66)),(2,1,(.t 68))],.c 70 144 [.t 64,.t 69],.f 71 2 3,.store 1 (.t 71) (.t 70)])
  (.skip)) <|
 .n [.f 72 4 3,.l 73 72,.f 74 3 4,.load (some 75) false 2 true (.t 74),.c 76 146 [.t 73,.t 75],.f 77 4 3,.store 1 (.t 77) (.t 76)] <|
 .n [.load (some 78) false 8 true (.t 3),.store 8 (.t 6) (.t 78),.mov (some 7) (.i 0)] <|
 .ret
def e105:C :=
 .n [.alloc 0 29 [(.int .i64 0),(.str [])]] <|
 .n [.build (some 1) [(.int .i64 0),(.str [])] [(0,1,(.i 5)),(1,1,(.s [80,111,108,105,99,121]))],.store 2 (.t 0) (.t 1)] <|
 .ret
def e106:C :=
 .n [.mov (some 2) (.k (.bool false))] <|
 .seq (.n [.mov (some 3) (.i 0)] <|
 .block 0 <|
  .loop <|
   .seq (.n [.m 5 3,.m 6 0,.ls 7 6,.b 8 .lss 5 7] <|
   .cond (.t 8)
    (.skip)
    (.exit 0)) <|
   .seq (.block 1 <|
    .n [.m 11 0,.m 12 3,.ix 13 11 12,.m 4 13] <|
    .seq (.ops false [⟨none,[.m 14 4,.bin (some 15) .lss (.t 14) (.k (.int .u8 32)),.m 16 15]⟩,
     ⟨some (16,false),[.m 17 4,.bin (some 18) .eql (.t 17) (.k (.int .u8 127))]⟩,
     ⟨none,[.pt 19 16 18,.m 20 19]⟩,
     ⟨some (20,false),[.m 21 4,.c 22 149 [.s [60,62,91,93,123,125,124,35,95],.t 21],.bi 23 .geq 22 0]⟩,
     ⟨none,[.pt 24 20 23,.m 25 24]⟩,
     ⟨some (25,false),[.m 26 4,.bin (some 27) .eql (.t 26) (.k (.int .u8 32)),.m 28 27]⟩,
     ⟨some (28,true),[.m 29 3,.bi 30 .gtr 29 0]⟩,
     ⟨some (25,false),[.pf 31 28 30,.m 32 31]⟩,
     ⟨some (32,true),[.m 33 0,.m 34 3,.bi 35 .sub 34 1,.ix 36 33 35,.bin (some 37) .eql (.t 36) (.k (.int .u8 32))]⟩,
     ⟨some (25,false),[.pf 38 32 37]⟩,
     ⟨none,[.pt 39 25 38]⟩]) <|
    .cond (.t 39)
     (.n [.mov (some 2) (.k (.bool false))] <|
     .ret)
     (.skip)) <|
   .o [.m 9 3,.bi 10 .add 9 1,.m 3 10]) <|
 .n [.mov (some 2) (.k (.bool true))] <|
 .ret
def e108:C :=
 .n [.mov (some 2) (.i 0),.mov (some 3) (.s []),.mov (some 4) (.k (.bool false))] <|
 .n [.m 12 0,.c 13 151 [.t 12,.s [58]],.m 11 13,.x 14 0 11,.x 15 1 11,.x 16 2 11,.m 5 14,.m 6 15,.m 7 16] <|
 .seq (.n [.m 17 7,.un (some 18) .not (.t 17)] <|
 .cond (.t 18)
  (.n [.mov (some 2) (.i 0),.mov (some 3) (.s []),.mov (some 4) (.k (.bool false))] <|
  .ret)
  (.skip)) <|
 .n [.m 19 5,.c 20 153 [.t 19,.s [32]],.c 21 152 [.t 20],.m 8 21] <|
 .seq (.n [.c 22 110 [],.mov (some 23) (.i 0)] <|
 .block 0 <|
  .loop <|
   .n [.bi 24 .lss 23 6] <|
   .seq (.cond (.t 24)
    (.skip)
    (.exit 0)) <|
   .seq (.block 1 <|
    .n [.m 25 23,.idxA (some 26) 6 1 false (.t 22) (.t 23),.m 9 25,.m 10 26] <|
    .seq (.ops false [⟨none,[.m 27 9,.bi 28 .neq 27 0,.m 29 28]⟩,
     ⟨some (29,true),[.m 30 8,.m 31 10,.c 32 152 [.t 31],.b 33 .eql 30 32]⟩,
     ⟨none,[.pf 34 29 33]⟩]) <|
    .cond (.t 34)
     (.n [.m 35 9,.m 36 6,.m 2 35,.m 3 36,.mov (some 4) (.k (.bool true))] <|
     .ret)
     (.skip)) <|
   .o [.bi 37 .add 23 1,.m 23 37]) <|
 .n [.mov (some 2) (.i 0),.mov (some 3) (.s []),.mov (some 4) (.k (.bool false))] <|
 .ret
def e109:C :=
 .n [.mov (some 2) (.k (.bool false))] <|
 .seq (.seq (.ops false [⟨none,[.m 5 0,.ls 6 5,.bi 7 .lss 6 1,.m 8 7]⟩,
  ⟨some (8,false),[.m 9 0,.ls 10 9,.bi 11 .gtr 10 30]⟩,
  ⟨none,[.pt 12 8 11,.m 13 12]⟩,
  ⟨some (13,false),[.m 14 0,.idx (some 15) (.t 14) (.i 0),.bin (some 16) .lss (.t 15) (.k (.int .u8 97))]⟩,
  ⟨none,[.pt 17 13 16,.m 18 17]⟩,
  ⟨some (18,false),[.m 19 0,.idx (some 20) (.t 19) (.i 0),.bin (some 21) .gtr (.t 20) (.k (.int .u8 122))]⟩,
  ⟨none,[.pt 22 18 21]⟩]) <|
 .cond (.t 22)
  (.n [.mov (some 2) (.k (.bool false))] <|
  .ret)
  (.skip)) <|
 .seq (.n [.m 23 0,.ls 24 23,.mov (some 25) (.i 0)] <|
 .block 0 <|
  .loop <|
   .n [.b 26 .lss 25 24] <|
   .seq (.cond (.t 26)
    (.skip)
    (.exit 0)) <|
   .seq (.block 1 <|
    .n [.m 27 25,.m 3 27] <|
    .n [.m 28 0,.m 29 3,.ix 30 28 29,.m 4 30] <|
    .seq (.ops false [⟨none,[.m 31 4,.bin (some 32) .lss (.t 31) (.k (.int .u8 97)),.m 33 32]⟩,
     ⟨some (33,false),[.m 34 4,.bin (some 35) .gtr (.t 34) (.k (.int .u8 122))]⟩,
     ⟨none,[.pt 36 33 35,.m 37 36]⟩,
     ⟨some (37,true),[.m 38 4,.bin (some 39) .lss (.t 38) (.k (.int .u8 48)),.m 40 39]⟩,
     ⟨some (40,false),[.m 41 4,.bin (some 42) .gtr (.t 41) (.k (.int .u8 57))]⟩,
     ⟨some (37,true),[.pt 43 40 42]⟩,
     ⟨none,[.pf 44 37 43,.m 45 44]⟩,
     ⟨some (45,true),[.m 46 4,.bin (some 47) .neq (.t 46) (.k (.int .u8 45))]⟩,
     ⟨none,[.pf 48 45 47,.m 49 48]⟩,
     ⟨some (49,true),[.m 50 4,.bin (some 51) .neq (.t 50) (.k (.int .u8 95))]⟩,
     ⟨none,[.pf 52 49 51]⟩]) <|
    .cond (.t 52)
     (.n [.mov (some 2) (.k (.bool false))] <|
     .ret)
     (.skip)) <|
   .o [.bi 53 .add 25 1,.m 25 53]) <|
 .n [.mov (some 2) (.k (.bool true))] <|
 .ret
def e110:C :=
 .n [.alloc 0 159 [(.str []),(.str []),(.str []),(.str []),(.str []),(.str [])]] <|
 .n [.build (some 1) [(.str []),(.str []),(.str []),(.str []),(.str []),(.str [])] [(0,1,(.s [])),(1,1,(.s [84,97,108,107])),(2,1,(.s [85,115,101,114])),(3,1,(.s [84,101,109,112,108,97,116,101])),(4,1,(.s [67,97,116,101,103,111,114,121])),(5,1,(.s [80,114,111,106,101,99,116]))],.store 6 (.t 0) (.t 1)] <|
 .ret
def e111:C :=
 .n [.box 5 53 (.t 0),.box 7 29 (.t 2),.mov (some 10) (.i 0)] <|
 .n [.mov (some 11) (.i 1)] <|
 .seq (.n [.f 14 2 5,.l 15 14,.ll 16 15,.mov (some 17) (.i 0)] <|
 .block 0 <|
  .loop <|
   .n [.b 18 .lss 17 16] <|
   .seq (.cond (.t 18)
    (.skip)
    (.exit 0)) <|
   .seq (.block 1 <|
    .n [.ia 19 5 15 17,.load (some 20) false 5 true (.t 19),.alloc 13 129 [(.bool false),(.str []),(.int .i64 0),(.str []),(.str [])],.store 5 (.t 13) (.t 20)] <|
    .seq (.seq (.ops false [⟨none,[.f 21 2 13,.load (some 22) false 2 true (.t 21),.load (some 23) false 2 true (.t 7),.eqA (some 24) true [0,1] (.t 22) (.t 23),.m 25 24]⟩,
     ⟨some (25,false),[.m 26 1,.f 27 1 13,.l 28 27,.c 29 121 [.t 26,.t 28]]⟩,
     ⟨none,[.pt 30 25 29,.m 31 30]⟩,
     ⟨some (31,false),[.load (some 32) false 5 true (.t 13),.m 33 3,.m 34 4,.c 35 154 [.t 32,.t 33,.t 34],.un (some 36) .not (.t 35)]⟩,
     ⟨none,[.pt 37 31 36]⟩]) <|
    .cond (.t 37)
     (.exit 1)
     (.skip)) <|
    .seq (.n [.f 38 0 13,.l 39 38] <|
    .cond (.t 39)
     (.n [.mov (some 10) (.i 3)] <|
     .ret)
     (.skip)) <|
    .o [.mov (some 11) (.i 2)]) <|
   .o [.bi 40 .add 17 1,.m 17 40]) <|
 .n [.m 41 11,.m 10 41] <|
 .ret
def e116:C :=
 .n [.mov (some 4) (.k (.bool false))] <|
 .n [.m 8 1,.c 9 159 [.t 8],.m 7 9,.x 10 0 7,.x 11 1 7,.m 5 10,.m 6 11] <|
 .seq (.block 0 <|
  .seq (.ops false [⟨none,[.m 13 5,.bin (some 14) .eql (.t 13) (.s []),.m 15 14]⟩,
   ⟨some (15,false),[.m 16 5,.idx (some 17) (.t 16) (.i 0),.bin (some 18) .eql (.t 17) (.k (.int .u8 35))]⟩,
   ⟨none,[.pt 19 15 18,.m 12 19]⟩]) <|
  .cond (.t 12)
   (.n [.mov (some 4) (.k (.bool true))] <|
   .ret)
   (.n [.m 21 5,.bin (some 22) .eql (.t 21) (.s [103,114,111,117,112]),.m 20 22] <|
   .cond (.t 20)
    (.n [.m 23 0,.m 24 6,.e 25 50 160 [.t 23,.t 24],.m 4 25] <|
    .ret)
    (.seq (.ops false [⟨none,[.m 27 5,.bin (some 28) .eql (.t 27) (.s [97,108,108,111,119]),.m 29 28]⟩,
     ⟨some (29,false),[.m 30 5,.bin (some 31) .eql (.t 30) (.s [100,101,110,121])]⟩,
     ⟨none,[.pt 32 29 31,.m 26 32]⟩]) <|
    .cond (.t 26)
     (.n [.m 33 0,.m 34 6,.m 35 5,.bin (some 36) .eql (.t 35) (.s [97,108,108,111,119]),.e 37 50 161 [.t 33,.t 34,.t 36],.m 4 37] <|
     .ret)
     (.seq (.ops false [⟨none,[.m 39 5,.bin (some 40) .eql (.t 39) (.s [103,117,97,114,100]),.m 41 40]⟩,
      ⟨some (41,false),[.m 42 5,.bin (some 43) .eql (.t 42) (.s [115,116,114,105,99,116])]⟩,
      ⟨none,[.pt 44 41 43,.m 38 44]⟩]) <|
     .cond (.t 38)
      (.n [.m 45 0,.m 46 6,.m 47 5,.bin (some 48) .eql (.t 47) (.s [115,116,114,105,99,116]),.e 49 50 162 [.t 45,.t 46,.t 48],.m 4 49] <|
      .ret)
      (.skip))))) <|
 .n [.mov (some 4) (.k (.bool false))] <|
 .ret
def e117:C :=
 .n [.box 1 53 (.t 0),.mov (some 2) (.i 0)] <|
 .seq (.seq (.ops false [⟨none,[.f 11 0 1,.l 12 11,.ll 13 12,.bi 14 .gtr 13 24,.m 15 14]⟩,
  ⟨some (15,false),[.f 16 1 1,.l 17 16,.ll 18 17,.bi 19 .gtr 18 64]⟩,
  ⟨none,[.pt 20 15 19,.m 21 20]⟩,
  ⟨some (21,false),[.f 22 2 1,.l 23 22,.ll 24 23,.bi 25 .gtr 24 64]⟩,
  ⟨none,[.pt 26 21 25]⟩]) <|
 .cond (.t 26)
  (.n [.mov (some 2) (.i 3)] <|
  .ret)
  (.skip)) <|
 .seq (.n [.f 27 0 1,.l 28 27,.ll 29 28,.mov (some 30) (.i 0)] <|
 .block 0 <|
  .loop <|
   .n [.b 31 .lss 30 29] <|
   .seq (.cond (.t 31)
    (.skip)
    (.exit 0)) <|
   .seq (.block 1 <|
    .n [.m 32 30,.m 3 32] <|
    .n [.load (some 33) false 3 true (.t 1),.m 34 3,.c 35 163 [.t 33,.t 34],.m 4 35] <|
    .n [.m 36 4,.bi 37 .neq 36 0] <|
    .cond (.t 37)
     (.n [.m 38 4,.m 2 38] <|
     .ret)
     (.skip)) <|
   .o [.bi 39 .add 30 1,.m 30 39]) <|
 .seq (.n [.f 40 1 1,.l 41 40,.ll 42 41,.mov (some 43) (.i 0)] <|
 .block 2 <|
  .loop <|
   .n [.b 44 .lss 43 42] <|
   .seq (.cond (.t 44)
    (.skip)
    (.exit 2)) <|
   .seq (.block 3 <|
    .n [.ia 45 6 41 43,.load (some 46) false 6 true (.t 45),.alloc 6 109 [(.bool false),(.int .i64 0),(.str []),(.int .i64 0),(.int .i64 0),(.str [])],.store 6 (.t 6) (.t 46)] <|
    .n [.load (some 47) false 3 true (.t 1),.load (some 48) false 6 true (.t 6),.c 49 164 [.t 47,.t 48],.m 7 49] <|
    .n [.m 50 7,.bi 51 .neq 50 0] <|
    .cond (.t 51)
     (.n [.m 52 7,.m 2 52] <|
     .ret)
     (.skip)) <|
   .o [.bi 53 .add 43 1,.m 43 53]) <|
 .seq (.n [.f 54 2 1,.l 55 54,.ll 56 55,.mov (some 57) (.i 0)] <|
 .block 4 <|
  .loop <|
   .n [.b 58 .lss 57 56] <|
   .seq (.cond (.t 58)
    (.skip)
    (.exit 4)) <|
   .seq (.block 5 <|
    .n [.ia 59 5 55 57,.load (some 60) false 5 true (.t 59),.alloc 9 129 [(.bool false),(.str []),(.int .i64 0),(.str []),(.str [])],.store 5 (.t 9) (.t 60)] <|
    .n [.load (some 61) false 3 true (.t 1),.load (some 62) false 5 true (.t 9),.c 63 165 [.t 61,.t 62],.m 10 63] <|
    .n [.m 64 10,.bi 65 .neq 64 0] <|
    .cond (.t 65)
     (.n [.m 66 10,.m 2 66] <|
     .ret)
     (.skip)) <|
   .o [.bi 67 .add 57 1,.m 57 67]) <|
 .n [.mov (some 2) (.i 0)] <|
 .ret
def e121:C :=
 .n [.mov (some 4) (.k (.bool false))] <|
 .n [.m 5 0,.m 6 1,.c 7 174 [.t 5,.t 6],.bi 8 .geq 7 0,.m 4 8] <|
 .ret
def e122:C :=
 .n [.mov (some 4) (.k (.bool false))] <|
 .n [.m 5 0,.m 6 1,.c 7 175 [.t 5,.t 6],.bi 8 .geq 7 0,.m 4 8] <|
 .ret
def e123:C :=
 .n [.mov (some 5) (.k (.bool false))] <|
 .seq (.ops true [⟨none,[.l 6 1,.m 7 6]⟩,
  ⟨some (7,true),[.m 8 0,.l 9 2,.b 10 .eql 8 9]⟩,
  ⟨none,[.pf 11 7 10,.m 12 11]⟩,
  ⟨some (12,false),[.m 13 0,.ls 14 13,.bi 15 .gtr 14 0,.m 16 15]⟩,
  ⟨some (16,true),[.m 17 0,.idx (some 18) (.t 17) (.i 0),.bin (some 19) .eql (.t 18) (.k (.int .u8 64))]⟩,
  ⟨some (12,false),[.pf 20 16 19,.m 21 20]⟩,
  ⟨some (21,true),[.l 22 3,.m 23 0,.slcS (some 24) (.t 23) (some (.i 1)) none,.call (some 25) false 121 [.t 22,.t 24]]⟩,
  ⟨some (12,false),[.pf 26 21 25]⟩,
  ⟨none,[.pt 27 12 26,.m 5 27]⟩]) <|
 .ret
def e124:C :=
 .n [.m 3 0,.ll 4 3,.m 2 4] <|
 .o [.m 5 0,.m 6 2,.m 7 2,.cvt (some 8) .u64 (.t 7),.c 9 177 [.t 8],.e 10 11 176 [.t 5,.i 0,.t 6,.t 9]]
def e125:C :=
 .n [.box 1 29 (.t 0),.mov (some 2) (.k .nils)] <|
 .n [.load (some 7) false 2 true (.t 1),.build (some 8) [(.int .i64 0),(.int .i64 0),(.str [])] [(0,1,(.i 3)),(1,2,(.t 7))],.mkv 9 107 3 [.t 8],.m 3 9] <|
 .n [.load (some 10) false 2 true (.t 1),.e 11 34 178 [.t 10],.m 4 11] <|
 .n [.m 12 4,.e 13 34 179 [.t 12]] <|
 .seq (.n [.m 14 4,.ll 15 14,.mov (some 16) (.i 0)] <|
 .block 0 <|
  .loop <|
   .n [.b 17 .lss 16 15] <|
   .seq (.cond (.t 17)
    (.skip)
    (.exit 0)) <|
   .seq (.block 1 <|
    .n [.ia 18 2 14 16,.load (some 19) false 2 true (.t 18),.alloc 6 29 [(.int .i64 0),(.str [])],.store 2 (.t 6) (.t 19)] <|
    .o [.m 20 3,.load (some 21) false 2 true (.t 6),.build (some 22) [(.int .i64 0),(.int .i64 0),(.str [])] [(0,1,(.i 3)),(1,2,(.t 21))],.mkl (some 23) 3 [.t 22],.app 24 107 3 (.t 20) (.t 23),.m 3 24]) <|
   .o [.bi 25 .add 16 1,.m 16 25]) <|
 .n [.m 26 3,.f 27 0 1,.l 28 27,.build (some 29) [(.int .i64 0),(.str [])] [(0,1,(.t 28))],.build (some 30) [(.int .i64 0),(.int .i64 0),(.str [])] [(0,1,(.i 2)),(1,2,(.t 29))],.build (some 31) [(.int .i64 0),(.int .i64 0),(.str [])] [(0,1,(.i 1))],.mkl (some 32) 3 [.t 30,.t 31],.app 33 107 3 (.t 26) (.t 32),.m 2 33] <|
 .ret
def e126:C :=
 .n [.box 2 107 (.t 0),.box 3 107 (.t 1),.mov (some 4) (.k (.bool false))] <|
 .seq (.n [.f 5 0 2,.l 6 5,.f 7 0 3,.l 8 7,.b 9 .neq 6 8] <|
 .cond (.t 9)
  (.n [.mov (some 4) (.k (.bool false))] <|
  .ret)
  (.skip)) <|
 .seq (.n [.f 10 0 2,.l 11 10] <|
 .block 0 <|
  .n [.bi 13 .eql 11 3,.m 12 13] <|
  .cond (.t 12)
   (.n [.f 14 1 2,.load (some 15) false 2 true (.t 14),.f 16 1 3,.load (some 17) false 2 true (.t 16),.eqA (some 18) false [0,1] (.t 15) (.t 17),.m 4 18] <|
   .ret)
   (.n [.bi 20 .eql 11 2,.m 19 20] <|
   .cond (.t 19)
    (.n [.f 21 1 2,.f 22 0 21,.l 23 22,.f 24 1 3,.f 25 0 24,.l 26 25,.b 27 .eql 23 26,.m 4 27] <|
    .ret)
    (.skip))) <|
 .n [.mov (some 4) (.k (.bool true))] <|
 .ret
def e127:C :=
 .n [.mov (some 2) (.k .nils)] <|
 .n [.mov (some 3) (.k .nils)] <|
 .n [.mov (some 4) (.s [])] <|
 .seq (.n [.mov (some 5) (.i 0)] <|
 .block 0 <|
  .loop <|
   .seq (.n [.m 6 5,.m 7 0,.ls 8 7,.b 9 .lss 6 8] <|
   .cond (.t 9)
    (.skip)
    (.exit 0)) <|
   .seq (.block 1 <|
    .seq (.seq (.ops false [⟨none,[.m 12 0,.m 13 5,.ix 14 12 13,.bin (some 15) .eql (.t 14) (.k (.int .u8 9)),.m 16 15]⟩,
     ⟨some (16,false),[.m 17 0,.m 18 5,.ix 19 17 18,.bin (some 20) .eql (.t 19) (.k (.int .u8 32))]⟩,
     ⟨none,[.pt 21 16 20]⟩]) <|
    .cond (.t 21)
     (.seq (.n [.m 22 4,.bin (some 23) .neq (.t 22) (.s [])] <|
     .cond (.t 23)
      (.o [.m 24 3,.m 25 4,.mkl (some 26) 1 [.t 25],.app 27 9 1 (.t 24) (.t 26),.m 3 27])
      (.skip)) <|
     .n [.mov (some 4) (.s [])] <|
     .exit 1)
     (.skip)) <|
    .o [.m 28 4,.m 29 0,.m 30 5,.m 31 5,.bi 32 .add 31 1,.slcS (some 33) (.t 29) (some (.t 30)) (some (.t 32)),.b 34 .add 28 33,.m 4 34]) <|
   .o [.m 10 5,.bi 11 .add 10 1,.m 5 11]) <|
 .seq (.n [.m 35 4,.bin (some 36) .neq (.t 35) (.s [])] <|
 .cond (.t 36)
  (.o [.m 37 3,.m 38 4,.mkl (some 39) 1 [.t 38],.app 40 9 1 (.t 37) (.t 39),.m 3 40])
  (.skip)) <|
 .n [.m 41 3,.m 2 41] <|
 .ret
def e128:C :=
 .n [.mov (some 2) (.i 0)] <|
 .n [.mkl (some 5) 1 [.s [],.s [114,101,97,100],.s [101,100,105,116],.s [109,111,118,101],.s [100,101,108,101,116,101],.s [114,101,118,105,101,119]],.m 3 5] <|
 .seq (.n [.mov (some 4) (.i 1)] <|
 .block 0 <|
  .loop <|
   .seq (.n [.m 6 4,.m 7 3,.ll 8 7,.b 9 .lss 6 8] <|
   .cond (.t 9)
    (.skip)
    (.exit 0)) <|
   .seq (.block 1 <|
    .n [.m 12 3,.m 13 4,.ia 14 1 12 13,.l 15 14,.m 16 0,.b 17 .eql 15 16] <|
    .cond (.t 17)
     (.n [.m 18 4,.m 2 18] <|
     .ret)
     (.skip)) <|
   .o [.m 10 4,.bi 11 .add 10 1,.m 4 11]) <|
 .n [.mov (some 2) (.i 0)] <|
 .ret
def e129:C :=
 .n [.alloc 2 107 [(.int .i64 0),(.int .i64 0),(.str [])],.mov (some 3) (.k (.bool false))] <|
 .seq (.n [.m 7 0,.bin (some 8) .eql (.t 7) (.s [60,97,108,108,62])] <|
 .cond (.t 8)
  (.n [.build (some 9) [(.int .i64 0),(.int .i64 0),(.str [])] [(0,1,(.i 1))],.store 3 (.t 2) (.t 9),.mov (some 3) (.k (.bool true))] <|
  .ret)
  (.skip)) <|
 .seq (.n [.mov (some 4) (.i 0)] <|
 .block 0 <|
  .loop <|
   .seq (.n [.m 10 4,.bi 11 .lss 10 6] <|
   .cond (.t 11)
    (.skip)
    (.exit 0)) <|
   .seq (.block 1 <|
    .n [.m 14 0,.m 15 4,.c 16 180 [.t 15],.b 17 .eql 14 16] <|
    .cond (.t 17)
     (.n [.m 18 4,.build (some 19) [(.int .i64 0),(.str [])] [(0,1,(.t 18))],.build (some 20) [(.int .i64 0),(.int .i64 0),(.str [])] [(0,1,(.i 2)),(1,2,(.t 19))],.store 3 (.t 2) (.t 20),.mov (some 3) (.k (.bool true))] <|
     .ret)
     (.skip)) <|
   .o [.m 12 4,.bi 13 .add 12 1,.m 4 13]) <|
 .n [.m 22 0,.c 23 181 [.t 22],.m 21 23,.x 24 0 21,.x 25 1 21,.alloc 5 29 [(.int .i64 0),(.str [])],.store 2 (.t 5) (.t 24),.m 6 25] <|
 .n [.load (some 26) false 2 true (.t 5),.build (some 27) [(.int .i64 0),(.int .i64 0),(.str [])] [(0,1,(.i 3)),(1,2,(.t 26))],.m 28 6,.bi 29 .eql 28 0,.store 3 (.t 2) (.t 27),.m 3 29] <|
 .ret
def e130:C :=
 .n [.mov (some 4) (.s [])] <|
 .seq (.n [.mov (some 5) (.i 0)] <|
 .block 0 <|
  .loop <|
   .seq (.n [.m 6 5,.m 7 1,.b 8 .lss 6 7] <|
   .cond (.t 8)
    (.skip)
    (.exit 0)) <|
   .seq (.block 1 <|
    .n [.m 11 0,.c 12 182 [.t 11],.m 0 12] <|
    .block 2 <|
     .loop <|
      .seq (.seq (.ops false [⟨none,[.m 13 0,.ls 14 13,.bi 15 .gtr 14 0,.m 16 15]⟩,
       ⟨some (16,true),[.m 17 0,.idx (some 18) (.t 17) (.i 0),.bin (some 19) .neq (.t 18) (.k (.int .u8 9))]⟩,
       ⟨none,[.pf 20 16 19,.m 21 20]⟩,
       ⟨some (21,true),[.m 22 0,.idx (some 23) (.t 22) (.i 0),.bin (some 24) .neq (.t 23) (.k (.int .u8 32))]⟩,
       ⟨none,[.pf 25 21 24]⟩]) <|
      .cond (.t 25)
       (.skip)
       (.exit 2)) <|
      .block 3 <|
       .o [.m 26 0,.slcS (some 27) (.t 26) (some (.i 1)) none,.m 0 27]) <|
   .o [.m 9 5,.bi 10 .add 9 1,.m 5 10]) <|
 .n [.m 28 0,.c 29 182 [.t 28],.m 4 29] <|
 .ret
def e131:C :=
 .n [.alloc 2 29 [(.int .i64 0),(.str [])],.mov (some 3) (.s []),.mov (some 4) (.k (.bool false))] <|
 .n [.mov (some 5) (.s [])] <|
 .seq (.n [.m 9 0,.c 10 88 [.t 9,.s [124],.i 0],.m 6 10] <|
 .n [.m 11 6,.bi 12 .geq 11 0] <|
 .cond (.t 12)
  (.n [.m 13 0,.m 14 6,.bi 15 .add 14 1,.slcS (some 16) (.t 13) (some (.t 15)) none,.c 17 182 [.t 16],.m 5 17] <|
  .seq (.n [.m 18 5,.bin (some 19) .eql (.t 18) (.s [])] <|
  .cond (.t 19)
   (.n [.build (some 20) [(.int .i64 0),(.str [])] [],.store 2 (.t 2) (.t 20),.mov (some 3) (.s []),.mov (some 4) (.k (.bool false))] <|
   .ret)
   (.skip)) <|
  .o [.m 21 0,.m 22 6,.slcS (some 23) (.t 21) none (some (.t 22)),.m 0 23])
  (.skip)) <|
 .n [.m 25 0,.c 26 182 [.t 25],.c 27 181 [.t 26],.m 24 27,.x 28 0 24,.x 29 1 24,.alloc 7 29 [(.int .i64 0),(.str [])],.store 2 (.t 7) (.t 28),.m 8 29] <|
 .n [.load (some 30) false 2 true (.t 7),.m 31 5,.m 32 8,.bi 33 .eql 32 0,.store 2 (.t 2) (.t 30),.m 3 31,.m 4 33] <|
 .ret
def e132:C :=
 .n [.mov (some 4) (.i 0)] <|
 .n [.m 8 0,.m 9 1,.ia 10 2 8 9,.load (some 11) false 2 true (.t 10),.alloc 5 116 [(.str []),.nils],.store 2 (.t 5) (.t 11)] <|
 .seq (.n [.f 12 0 5,.l 13 12,.c 14 51 [.t 13],.un (some 15) .not (.t 14)] <|
 .cond (.t 15)
  (.n [.mov (some 4) (.i 1)] <|
  .ret)
  (.skip)) <|
 .seq (.seq (.p [.m 16 0,.m 17 1,.slc (some 18) 2 (.t 16) none (some (.t 17)),.f 19 0 5,.l 20 19,.c 21 133 [.t 18,.t 20]]) <|
 .cond (.t 21)
  (.n [.mov (some 4) (.i 5)] <|
  .ret)
  (.skip)) <|
 .seq (.n [.f 22 1 5,.l 23 22,.ll 24 23,.bi 25 .gtr 24 24] <|
 .cond (.t 25)
  (.n [.mov (some 4) (.i 3)] <|
  .ret)
  (.skip)) <|
 .seq (.n [.mov (some 6) (.i 0)] <|
 .block 0 <|
  .loop <|
   .seq (.n [.m 26 6,.f 27 1 5,.l 28 27,.ll 29 28,.b 30 .lss 26 29] <|
   .cond (.t 30)
    (.skip)
    (.exit 0)) <|
   .seq (.block 1 <|
    .n [.f 33 1 5,.l 34 33,.m 35 6,.ia 36 1 34 35,.l 37 36,.m 7 37] <|
    .seq (.seq (.ops false [⟨none,[.m 38 7,.ls 39 38,.bi 40 .gtr 39 0,.m 41 40]⟩,
     ⟨some (41,true),[.m 42 7,.idx (some 43) (.t 42) (.i 0),.bin (some 44) .eql (.t 43) (.k (.int .u8 64))]⟩,
     ⟨none,[.pf 45 41 44]⟩]) <|
    .cond (.t 45)
     (.seq (.n [.m 46 7,.slcS (some 47) (.t 46) (some (.i 1)) none,.c 48 51 [.t 47],.un (some 49) .not (.t 48)] <|
     .cond (.t 49)
      (.n [.mov (some 4) (.i 1)] <|
      .ret)
      (.skip)) <|
     .seq (.n [.m 50 0,.m 51 7,.slcS (some 52) (.t 51) (some (.i 1)) none,.c 53 133 [.t 50,.t 52],.un (some 54) .not (.t 53)] <|
     .cond (.t 54)
      (.n [.mov (some 4) (.i 4)] <|
      .ret)
      (.skip)) <|
     .exit 1)
     (.skip)) <|
    .n [.m 55 7,.c 56 51 [.t 55],.un (some 57) .not (.t 56)] <|
    .cond (.t 57)
     (.n [.mov (some 4) (.i 1)] <|
     .ret)
     (.skip)) <|
   .o [.m 31 6,.bi 32 .add 31 1,.m 6 32]) <|
 .n [.mov (some 4) (.i 0)] <|
 .ret
def e133:C :=
 .n [.mov (some 4) (.k (.bool false))] <|
 .seq (.n [.mov (some 5) (.i 0)] <|
 .block 0 <|
  .loop <|
   .seq (.n [.m 6 5,.m 7 0,.ll 8 7,.b 9 .lss 6 8] <|
   .cond (.t 9)
    (.skip)
    (.exit 0)) <|
   .seq (.block 1 <|
    .n [.m 12 0,.m 13 5,.ia 14 2 12 13,.f 15 0 14,.l 16 15,.m 17 1,.b 18 .eql 16 17] <|
    .cond (.t 18)
     (.n [.mov (some 4) (.k (.bool true))] <|
     .ret)
     (.skip)) <|
   .o [.m 10 5,.bi 11 .add 10 1,.m 5 11]) <|
 .n [.m 19 1,.c 20 183 [.t 19],.m 4 20] <|
 .ret
def e134:C :=
 .n [.box 1 107 (.t 0),.mov (some 2) (.k (.bool false))] <|
 .seq (.n [.f 3 0 1,.l 4 3] <|
 .block 0 <|
  .n [.bi 6 .eql 4 1,.m 5 6] <|
  .cond (.t 5)
   (.n [.f 7 1 1,.load (some 8) false 2 true (.t 7),.build (some 9) [(.int .i64 0),(.str [])] [],.eqA (some 10) false [0,1] (.t 8) (.t 9),.m 2 10] <|
   .ret)
   (.n [.bi 12 .eql 4 2,.m 11 12] <|
   .cond (.t 11)
    (.seq (.ops false [⟨none,[.f 13 1 1,.f 14 0 13,.l 15 14,.bi 16 .geq 15 0,.m 17 16]⟩,
     ⟨some (17,true),[.f 18 1 1,.f 19 0 18,.l 20 19,.bi 21 .lss 20 6]⟩,
     ⟨none,[.pf 22 17 21,.m 23 22]⟩,
     ⟨some (23,true),[.f 24 1 1,.f 25 1 24,.l 26 25,.bin (some 27) .eql (.t 26) (.s [])]⟩,
     ⟨none,[.pf 28 23 27,.m 2 28]⟩]) <|
    .ret)
    (.n [.bi 30 .eql 4 3,.m 29 30] <|
    .cond (.t 29)
     (.n [.f 31 1 1,.load (some 32) false 2 true (.t 31),.c 33 47 [.t 32],.m 2 33] <|
     .ret)
     (.skip)))) <|
 .n [.mov (some 2) (.k (.bool false))] <|
 .ret
def e135:C :=
 .n [.mov (some 2) (.k (.bool false))] <|
 .seq (.seq (.ops false [⟨none,[.m 3 0,.ls 4 3,.bi 5 .gtr 4 100,.m 6 5]⟩,
  ⟨some (6,false),[.m 7 0,.c 8 182 [.t 7],.m 9 0,.b 10 .neq 8 9]⟩,
  ⟨none,[.pt 11 6 10]⟩]) <|
 .cond (.t 11)
  (.n [.mov (some 2) (.k (.bool false))] <|
  .ret)
  (.skip)) <|
 .seq (.ops false [⟨none,[.m 12 0,.c 13 88 [.t 12,.s [10],.i 0],.bi 14 .lss 13 0,.m 15 14]⟩,
  ⟨some (15,true),[.m 16 0,.c 17 88 [.t 16,.s [124],.i 0],.bi 18 .lss 17 0]⟩,
  ⟨none,[.pf 19 15 18,.m 2 19]⟩]) <|
 .ret
def e136:C :=
 .n [.mov (some 4) (.k (.bool false))] <|
 .seq (.n [.m 6 0,.ls 7 6,.m 8 1,.ls 9 8,.b 10 .neq 7 9] <|
 .cond (.t 10)
  (.n [.mov (some 4) (.k (.bool false))] <|
  .ret)
  (.skip)) <|
 .seq (.n [.mov (some 5) (.i 0)] <|
 .block 0 <|
  .loop <|
   .seq (.n [.m 11 5,.m 12 0,.ls 13 12,.b 14 .lss 11 13] <|
   .cond (.t 14)
    (.skip)
    (.exit 0)) <|
   .seq (.block 1 <|
    .seq (.p [.m 17 0,.m 18 5,.ix 19 17 18,.c 20 184 [.t 19],.m 21 1,.m 22 5,.ix 23 21 22,.c 24 184 [.t 23],.b 25 .neq 20 24]) <|
    .cond (.t 25)
     (.n [.mov (some 4) (.k (.bool false))] <|
     .ret)
     (.skip)) <|
   .o [.m 15 5,.bi 16 .add 15 1,.m 5 16]) <|
 .n [.mov (some 4) (.k (.bool true))] <|
 .ret
def e137:C :=
 .n [.mov (some 2) (.s [])] <|
 .n [.mkl (some 4) 1 [.s [],.s [84,97,108,107],.s [85,115,101,114],.s [84,101,109,112,108,97,116,101],.s [67,97,116,101,103,111,114,121],.s [80,114,111,106,101,99,116]],.m 3 4] <|
 .seq (.seq (.ops false [⟨none,[.m 5 0,.bi 6 .lss 5 0,.m 7 6]⟩,
  ⟨some (7,false),[.m 8 0,.m 9 3,.ll 10 9,.b 11 .geq 8 10]⟩,
  ⟨none,[.pt 12 7 11]⟩]) <|
 .cond (.t 12)
  (.n [.mov (some 2) (.s [])] <|
  .ret)
  (.skip)) <|
 .n [.m 13 3,.m 14 0,.ia 15 1 13 14,.l 16 15,.m 2 16] <|
 .ret
def e138:C :=
 .n [.box 2 27 (.t 0),.mov (some 4) (.k (.bool false))] <|
 .seq (.seq (.ops false [⟨none,[.m 9 1,.ll 10 9,.bi 11 .lss 10 1,.m 12 11]⟩,
  ⟨some (12,false),[.m 13 1,.ll 14 13,.bi 15 .gtr 14 40]⟩,
  ⟨none,[.pt 16 12 15]⟩]) <|
 .cond (.t 16)
  (.n [.mov (some 4) (.k (.bool false))] <|
  .ret)
  (.skip)) <|
 .n [.mov (some 5) (.i 0),.mov (some 6) (.i 1)] <|
 .seq (.n [.mov (some 7) (.i 0)] <|
 .block 0 <|
  .loop <|
   .seq (.n [.m 17 7,.m 18 1,.ll 19 18,.b 20 .lss 17 19] <|
   .cond (.t 20)
    (.skip)
    (.exit 0)) <|
   .seq (.block 1 <|
    .n [.m 23 1,.m 24 7,.ia 25 6 23 24,.load (some 26) false 6 true (.t 25),.alloc 8 42 [(.int .i64 0),(.str []),(.str []),(.str []),(.int .i64 0),(.int .i64 0)],.store 6 (.t 8) (.t 26)] <|
    .seq (.seq (.ops false [⟨none,[.f 27 0 8,.l 28 27,.m 29 7,.bi 30 .add 29 1,.b 31 .neq 28 30,.m 32 31]⟩,
     ⟨some (32,false),[.f 33 3 8,.l 34 33,.ls 35 34,.bi 36 .gtr 35 8192]⟩,
     ⟨none,[.pt 37 32 36,.m 38 37]⟩,
     ⟨some (38,false),[.f 39 2 8,.l 40 39,.ls 41 40,.bi 42 .gtr 41 200]⟩,
     ⟨none,[.pt 43 38 42,.m 44 43]⟩,
     ⟨some (44,false),[.f 45 1 8,.l 46 45,.c 47 140 [.t 46],.un (some 48) .not (.t 47)]⟩,
     ⟨none,[.pt 49 44 48,.m 50 49]⟩,
     ⟨some (50,false),[.f 51 4 8,.l 52 51,.m 53 5,.b 54 .lss 52 53]⟩,
     ⟨none,[.pt 55 50 54,.m 56 55]⟩,
     ⟨some (56,false),[.f 57 4 8,.l 58 57,.f 59 1 2,.l 60 59,.b 61 .gtr 58 60]⟩,
     ⟨none,[.pt 62 56 61,.m 63 62]⟩,
     ⟨some (63,false),[.f 64 5 8,.l 65 64,.m 66 6,.b 67 .lss 65 66]⟩,
     ⟨none,[.pt 68 63 67,.m 69 68]⟩,
     ⟨some (69,false),[.f 70 5 8,.l 71 70,.f 72 0 2,.l 73 72,.b 74 .gtr 71 73]⟩,
     ⟨none,[.pt 75 69 74]⟩]) <|
    .cond (.t 75)
     (.n [.mov (some 4) (.k (.bool false))] <|
     .ret)
     (.skip)) <|
    .p [.f 76 4 8,.l 77 76,.f 78 5 8,.l 79 78,.m 5 77,.m 6 79]) <|
   .o [.m 21 7,.bi 22 .add 21 1,.m 7 22]) <|
 .n [.mov (some 4) (.k (.bool true))] <|
 .ret
def e139:C :=
 .n [.box 2 29 (.t 0),.box 3 29 (.t 1),.mov (some 4) (.i 0)] <|
 .seq (.block 0 <|
  .seq (.ops false [⟨none,[.f 6 0 2,.l 7 6,.f 8 0 3,.l 9 8,.b 10 .lss 7 9,.m 11 10]⟩,
   ⟨some (11,false),[.f 12 0 2,.l 13 12,.f 14 0 3,.l 15 14,.b 16 .eql 13 15,.m 17 16]⟩,
   ⟨some (17,true),[.f 18 1 2,.l 19 18,.f 20 1 3,.l 21 20,.b 22 .lss 19 21]⟩,
   ⟨some (11,false),[.pf 23 17 22]⟩,
   ⟨none,[.pt 24 11 23,.m 5 24]⟩]) <|
  .cond (.t 5)
   (.n [.mov (some 4) (.k (.int .i64 (-1)))] <|
   .ret)
   (.n [.load (some 26) false 2 true (.t 2),.load (some 27) false 2 true (.t 3),.eqA (some 28) false [0,1] (.t 26) (.t 27),.m 25 28] <|
   .cond (.t 25)
    (.n [.mov (some 4) (.i 0)] <|
    .ret)
    (.skip))) <|
 .n [.mov (some 4) (.i 1)] <|
 .ret
def e140:C :=
 .n [.mov (some 2) (.k (.bool false))] <|
 .seq (.ops false [⟨none,[.m 3 0,.bin (some 4) .eql (.t 3) (.s []),.m 5 4]⟩,
  ⟨some (5,false),[.m 6 0,.c 7 51 [.t 6]]⟩,
  ⟨none,[.pt 8 5 7,.m 2 8]⟩]) <|
 .ret
def e142:C :=
 .n [.mov (some 2) (.k (.bool false))] <|
 .seq (.ops false [⟨none,[.m 3 0,.bin (some 4) .eql (.t 3) (.s []),.m 5 4]⟩,
  ⟨some (5,false),[.m 6 0,.c 7 51 [.t 6]]⟩,
  ⟨none,[.pt 8 5 7,.m 2 8]⟩]) <|
 .ret
def e144:C :=
 .n [.box 3 71 (.t 1),.mov (some 4) (.k .nils)] <|
 .n [.mov (some 5) (.k .nils)] <|
 .n [.mov (some 6) (.i 0)] <|
 .seq (.block 0 <|
  .loop <|
   .seq (.seq (.ops true [⟨none,[.m 7 6,.m 8 0,.ll 9 8,.b 10 .lss 7 9,.m 11 10]⟩,
    ⟨some (11,true),[.m 12 0,.m 13 6,.ia 14 3 12 13,.f 15 0 14,.load (some 16) false 2 true (.t 15),.f 17 0 3,.load (some 18) false 2 true (.t 17),.c 19 139 [.t 16,.t 18],.bi 20 .lss 19 0]⟩,
    ⟨none,[.pf 21 11 20]⟩]) <|
   .cond (.t 21)
    (.skip)
    (.exit 0)) <|
   .block 1 <|
    .n [.m 22 5,.m 23 0,.m 24 6,.ia 25 3 23 24,.load (some 26) false 3 true (.t 25),.mkl (some 27) 3 [.t 26],.app 28 71 3 (.t 22) (.t 27),.m 5 28] <|
    .o [.m 29 6,.bi 30 .add 29 1,.m 6 30]) <|
 .n [.m 31 5,.load (some 32) false 3 true (.t 3),.mkl (some 33) 3 [.t 32],.app 34 71 3 (.t 31) (.t 33),.m 5 34] <|
 .n [.m 35 5,.m 36 0,.m 37 6,.slc (some 38) 3 (.t 36) (some (.t 37)) none,.app 39 71 3 (.t 35) (.t 38),.m 4 39] <|
 .ret
def e145:C :=
 .n [.mov (some 4) (.k .nils)] <|
 .seq (.p [.m 5 0,.m 6 1,.slc (some 7) 3 (.t 5) none (some (.t 6)),.app 8 71 3 (.k .nils) (.t 7),.m 9 0,.m 10 1,.bi 11 .add 10 1,.slc (some 12) 3 (.t 9) (some (.t 11)) none,.app 13 71 3 (.t 8) (.t 12),.m 4 13]) <|
 .ret
def e146:C :=
 .n [.box 3 29 (.t 1),.mov (some 4) (.k .nils)] <|
 .n [.mov (some 5) (.k .nils)] <|
 .seq (.n [.mov (some 6) (.i 0)] <|
 .block 0 <|
  .loop <|
   .seq (.n [.m 7 6,.m 8 0,.ll 9 8,.b 10 .lss 7 9] <|
   .cond (.t 10)
    (.skip)
    (.exit 0)) <|
   .seq (.block 1 <|
    .seq (.p [.m 13 0,.m 14 6,.ia 15 8 13 14,.f 16 3 15,.load (some 17) false 2 true (.t 16),.load (some 18) false 2 true (.t 3),.eqA (some 19) true [0,1] (.t 17) (.t 18)]) <|
    .cond (.t 19)
     (.o [.m 20 5,.m 21 0,.m 22 6,.ia 23 8 21 22,.load (some 24) false 8 true (.t 23),.mkl (some 25) 8 [.t 24],.app 26 194 8 (.t 20) (.t 25),.m 5 26])
     (.skip)) <|
   .o [.m 11 6,.bi 12 .add 11 1,.m 6 12]) <|
 .n [.m 27 5,.m 4 27] <|
 .ret
def e148:C :=
 .n [.box 1 29 (.t 0),.mov (some 2) (.s [])] <|
 .n [.load (some 3) false 2 true (.t 1),.c 4 185 [.t 3],.bin (some 5) .add (.s [35,82,69,68,73,82,69,67,84,32,91,91]) (.t 4),.bin (some 6) .add (.t 5) (.s [93,93]),.m 2 6] <|
 .ret
def e152:C :=
 .n [.mov (some 2) (.s [])] <|
 .n [.m 6 0,.s2b 7 5 (.t 6),.m 3 7] <|
 .seq (.n [.m 8 3,.ll 9 8,.mov (some 10) (.i 0)] <|
 .block 0 <|
  .loop <|
   .n [.b 11 .lss 10 9] <|
   .seq (.cond (.t 11)
    (.skip)
    (.exit 0)) <|
   .seq (.block 1 <|
    .n [.m 12 10,.ia 13 1 8 10,.l 14 13,.m 4 12,.m 5 14] <|
    .seq (.ops false [⟨none,[.m 15 5,.bin (some 16) .geq (.t 15) (.k (.int .u8 65)),.m 17 16]⟩,
     ⟨some (17,true),[.m 18 5,.bin (some 19) .leq (.t 18) (.k (.int .u8 90))]⟩,
     ⟨none,[.pf 20 17 19]⟩]) <|
    .cond (.t 20)
     (.o [.m 21 3,.m 22 4,.m 23 5,.bin (some 24) .add (.t 23) (.k (.int .u8 32)),.ia 25 1 21 22,.store 1 (.t 25) (.t 24)])
     (.skip)) <|
   .o [.bi 26 .add 10 1,.m 10 26]) <|
 .n [.m 27 3,.b2s (some 28) (.t 27),.m 2 28] <|
 .ret
def e159:C :=
 .n [.mov (some 2) (.s []),.mov (some 3) (.s [])] <|
 .n [.m 5 0,.c 6 193 [.t 5,.s [32,9]],.m 0 6] <|
 .n [.m 7 0,.c 8 194 [.t 7,.s [32,9]],.m 4 8] <|
 .seq (.n [.m 9 4,.bi 10 .lss 9 0] <|
 .cond (.t 10)
  (.n [.m 11 0,.m 2 11,.mov (some 3) (.s [])] <|
  .ret)
  (.skip)) <|
 .seq (.p [.m 12 0,.m 13 4,.slcS (some 14) (.t 12) none (some (.t 13)),.m 15 0,.m 16 4,.slcS (some 17) (.t 15) (some (.t 16)) none,.c 18 193 [.t 17,.s [32,9]],.m 2 14,.m 3 18]) <|
 .ret
def e160:C :=
 .n [.mov (some 4) (.k (.bool false))] <|
 .n [.m 8 1,.c 9 159 [.t 8],.m 7 9,.x 10 0 7,.x 11 1 7,.m 5 10,.m 1 11] <|
 .n [.m 12 1,.c 13 195 [.t 12,(.k (.fn 196 []))],.m 6 13] <|
 .n [.m 14 0,.m 15 0,.nchk (some 16) (.t 15),.f 17 0 16,.l 18 17,.m 19 5,.m 20 6,.build (some 21) [(.str []),.nils] [(0,1,(.t 19)),(1,1,(.t 20))],.mkl (some 22) 2 [.t 21],.app 23 116 2 (.t 18) (.t 22),.nchk (some 24) (.t 14),.f 25 0 24,.store 1 (.t 25) (.t 23)] <|
 .n [.m 26 5,.bin (some 27) .neq (.t 26) (.s []),.m 4 27] <|
 .ret
def e161:C :=
 .n [.mov (some 6) (.k (.bool false))] <|
 .n [.m 15 1,.c 16 159 [.t 15],.m 14 16,.x 17 0 14,.x 18 1 14,.m 7 17,.m 1 18] <|
 .n [.m 20 1,.c 21 159 [.t 20],.m 19 21,.x 22 0 19,.x 23 1 19,.m 8 22,.m 9 23] <|
 .n [.m 24 2,.c 25 197 [],.m 26 7,.c 27 174 [.t 25,.t 26],.bi 28 .add 27 1,.m 29 8,.build (some 30) [(.bool false),(.int .i64 0),(.str []),(.int .i64 0),(.int .i64 0),(.str [])] [(0,1,(.t 24)),(1,1,(.t 28)),(2,1,(.t 29))],.alloc 10 109 [(.bool false),(.int .i64 0),(.str []),(.int .i64 0),(.int .i64 0),(.str [])],.store 6 (.t 10) (.t 30)] <|
 .seq (.n [.f 31 1 10,.l 32 31,.bi 33 .eql 32 0] <|
 .cond (.t 33)
  (.n [.mov (some 6) (.k (.bool false))] <|
  .ret)
  (.skip)) <|
 .seq (.n [.m 34 9,.bin (some 35) .eql (.t 34) (.s [60,97,108,108,62])] <|
 .cond (.t 35)
  (.o [.f 36 3 10,.f 37 0 36,.store 1 (.t 37) (.i 1)])
  (.n [.c 38 198 [],.m 39 9,.c 40 174 [.t 38,.t 39],.m 11 40] <|
  .n [.m 41 11,.bi 42 .geq 41 0] <|
  .cond (.t 42)
   (.o [.m 43 11,.build (some 44) [(.int .i64 0),(.str [])] [(0,1,(.t 43))],.build (some 45) [(.int .i64 0),(.int .i64 0),(.str [])] [(0,1,(.i 2)),(1,2,(.t 44))],.f 46 3 10,.store 3 (.t 46) (.t 45)])
   (.n [.m 48 9,.c 49 199 [.t 48],.m 47 49,.x 50 0 47,.x 51 1 47,.alloc 12 29 [(.int .i64 0),(.str [])],.store 2 (.t 12) (.t 50),.m 13 51] <|
   .seq (.n [.m 52 13,.bi 53 .neq 52 0] <|
   .cond (.t 53)
    (.n [.mov (some 6) (.k (.bool false))] <|
    .ret)
    (.skip)) <|
   .o [.load (some 54) false 2 true (.t 12),.build (some 55) [(.int .i64 0),(.int .i64 0),(.str [])] [(0,1,(.i 3)),(1,2,(.t 54))],.f 56 3 10,.store 3 (.t 56) (.t 55)]))) <|
 .seq (.p [.m 57 0,.m 58 0,.nchk (some 59) (.t 58),.f 60 1 59,.l 61 60,.load (some 62) false 6 true (.t 10),.mkl (some 63) 6 [.t 62],.app 64 109 6 (.t 61) (.t 63),.nchk (some 65) (.t 57),.f 66 1 65,.store 1 (.t 66) (.t 64)]) <|
 .n [.mov (some 6) (.k (.bool true))] <|
 .ret
def e162:C :=
 .n [.mov (some 6) (.k (.bool false))] <|
 .n [.m 14 1,.c 15 159 [.t 14],.m 13 15,.x 16 0 13,.x 17 1 13,.m 7 16,.m 1 17] <|
 .n [.m 19 1,.c 20 151 [.t 19,.s [124]],.m 18 20,.x 21 0 18,.x 22 1 18,.x 23 2 18,.m 8 21,.m 9 22,.m 10 23] <|
 .n [.m 24 9,.c 25 193 [.t 24,.s [32,9]],.m 9 25] <|
 .n [.m 27 8,.c 28 193 [.t 27,.s [32,9]],.c 29 199 [.t 28],.m 26 29,.x 30 0 26,.x 31 1 26,.alloc 11 29 [(.int .i64 0),(.str [])],.store 2 (.t 11) (.t 30),.m 12 31] <|
 .seq (.seq (.ops false [⟨none,[.m 32 12,.bi 33 .neq 32 0,.m 34 33]⟩,
  ⟨some (34,false),[.m 35 10,.m 36 35]⟩,
  ⟨some (36,true),[.m 37 9,.bin (some 38) .eql (.t 37) (.s [])]⟩,
  ⟨some (34,false),[.pf 39 36 38]⟩,
  ⟨none,[.pt 40 34 39]⟩]) <|
 .cond (.t 40)
  (.n [.mov (some 6) (.k (.bool false))] <|
  .ret)
  (.skip)) <|
 .seq (.p [.m 41 0,.m 42 0,.nchk (some 43) (.t 42),.f 44 2 43,.l 45 44,.m 46 2,.m 47 7,.load (some 48) false 2 true (.t 11),.m 49 9,.build (some 50) [(.bool false),(.str []),(.int .i64 0),(.str []),(.str [])] [(0,1,(.t 46)),(1,1,(.t 47)),(2,2,(.t 48)),(4,1,(.t 49))],.mkl (some 51) 5 [.t 50],.app 52 129 5 (.t 45) (.t 51),.nchk (some 53) (.t 41),.f 54 2 53,.store 1 (.t 54) (.t 52)]) <|
 .n [.mov (some 6) (.k (.bool true))] <|
 .ret
def e163:C :=
 .n [.box 2 53 (.t 0),.mov (some 4) (.i 0)] <|
 .n [.f 10 0 2,.l 11 10,.m 12 1,.ia 13 2 11 12,.load (some 14) false 2 true (.t 13),.alloc 5 116 [(.str []),.nils],.store 2 (.t 5) (.t 14)] <|
 .seq (.n [.f 15 0 5,.l 16 15,.c 17 109 [.t 16],.un (some 18) .not (.t 17)] <|
 .cond (.t 18)
  (.n [.mov (some 4) (.i 1)] <|
  .ret)
  (.skip)) <|
 .seq (.seq (.ops false [⟨none,[.f 19 0 5,.l 20 19,.c 21 200 [.t 20],.m 22 21]⟩,
  ⟨some (22,false),[.f 23 0 2,.l 24 23,.m 25 1,.slc (some 26) 2 (.t 24) none (some (.t 25)),.clos (some 27) 202 [.t 5],.call (some 28) false 201 [.t 26,.t 27]]⟩,
  ⟨none,[.pt 29 22 28]⟩]) <|
 .cond (.t 29)
  (.n [.mov (some 4) (.i 5)] <|
  .ret)
  (.skip)) <|
 .seq (.n [.f 30 1 5,.l 31 30,.ll 32 31,.bi 33 .gtr 32 24] <|
 .cond (.t 33)
  (.n [.mov (some 4) (.i 3)] <|
  .ret)
  (.skip)) <|
 .seq (.n [.f 34 1 5,.l 35 34,.ll 36 35,.mov (some 37) (.i 0)] <|
 .block 0 <|
  .loop <|
   .n [.b 38 .lss 37 36] <|
   .seq (.cond (.t 38)
    (.skip)
    (.exit 0)) <|
   .seq (.block 1 <|
    .n [.ia 39 1 35 37,.l 40 39,.m 7 40] <|
    .n [.m 42 7,.c 43 203 [.t 42,.s [64]],.m 41 43,.x 44 0 41,.x 45 1 41,.m 8 44,.m 9 45] <|
    .seq (.n [.m 46 8,.c 47 109 [.t 46],.un (some 48) .not (.t 47)] <|
    .cond (.t 48)
     (.n [.mov (some 4) (.i 1)] <|
     .ret)
     (.skip)) <|
    .seq (.ops false [⟨none,[.m 49 9,.m 50 49]⟩,
     ⟨some (50,true),[.load (some 51) false 3 true (.t 2),.m 52 8,.c 53 204 [.t 51,.t 52],.un (some 54) .not (.t 53)]⟩,
     ⟨none,[.pf 55 50 54]⟩]) <|
    .cond (.t 55)
     (.n [.mov (some 4) (.i 4)] <|
     .ret)
     (.skip)) <|
   .o [.bi 56 .add 37 1,.m 37 56]) <|
 .n [.mov (some 4) (.i 0)] <|
 .ret
def e164:C :=
 .n [.box 2 53 (.t 0),.box 3 109 (.t 1),.mov (some 4) (.i 0)] <|
 .seq (.seq (.ops false [⟨none,[.f 7 1 3,.l 8 7,.bi 9 .lss 8 1,.m 10 9]⟩,
  ⟨some (10,false),[.f 11 1 3,.l 12 11,.bi 13 .gtr 12 5]⟩,
  ⟨none,[.pt 14 10 13]⟩]) <|
 .cond (.t 14)
  (.n [.mov (some 4) (.i 2)] <|
  .ret)
  (.skip)) <|
 .seq (.n [.load (some 15) false 3 true (.t 2),.f 16 2 3,.l 17 16,.c 18 204 [.t 15,.t 17],.un (some 19) .not (.t 18)] <|
 .cond (.t 19)
  (.n [.mov (some 4) (.i 4)] <|
  .ret)
  (.skip)) <|
 .n [.f 20 3 3,.f 21 1 20,.load (some 22) false 2 true (.t 21),.alloc 5 29 [(.int .i64 0),(.str [])],.store 2 (.t 5) (.t 22)] <|
 .n [.mov (some 6) (.k (.bool false))] <|
 .seq (.n [.f 23 3 3,.f 24 0 23,.l 25 24] <|
 .block 0 <|
  .n [.bi 27 .eql 25 1,.m 26 27] <|
  .cond (.t 26)
   (.o [.load (some 28) false 2 true (.t 5),.build (some 29) [(.int .i64 0),(.str [])] [],.eqA (some 30) false [0,1] (.t 28) (.t 29),.m 6 30])
   (.n [.bi 32 .eql 25 2,.m 31 32] <|
   .cond (.t 31)
    (.ops false [⟨none,[.f 33 0 5,.l 34 33,.bi 35 .geq 34 0,.m 36 35]⟩,
     ⟨some (36,true),[.f 37 0 5,.l 38 37,.bi 39 .lss 38 6]⟩,
     ⟨none,[.pf 40 36 39,.m 41 40]⟩,
     ⟨some (41,true),[.f 42 1 5,.l 43 42,.bin (some 44) .eql (.t 43) (.s [])]⟩,
     ⟨none,[.pf 45 41 44,.m 6 45]⟩])
    (.n [.bi 47 .eql 25 3,.m 46 47] <|
    .cond (.t 46)
     (.o [.load (some 48) false 2 true (.t 5),.c 49 59 [.t 48],.m 6 49])
     (.skip)))) <|
 .seq (.n [.m 50 6,.un (some 51) .not (.t 50)] <|
 .cond (.t 51)
  (.n [.mov (some 4) (.i 7)] <|
  .ret)
  (.skip)) <|
 .n [.mov (some 4) (.i 0)] <|
 .ret
def e165:C :=
 .n [.box 2 53 (.t 0),.box 3 129 (.t 1),.mov (some 4) (.i 0)] <|
 .seq (.n [.load (some 5) false 3 true (.t 2),.f 6 1 3,.l 7 6,.c 8 204 [.t 5,.t 7],.un (some 9) .not (.t 8)] <|
 .cond (.t 9)
  (.n [.mov (some 4) (.i 4)] <|
  .ret)
  (.skip)) <|
 .seq (.seq (.ops true [⟨none,[.f 10 2 3,.load (some 11) false 2 true (.t 10),.c 12 59 [.t 11],.un (some 13) .not (.t 12),.m 14 13]⟩,
  ⟨some (14,false),[.f 15 4 3,.l 16 15,.ls 17 16,.bi 18 .gtr 17 100]⟩,
  ⟨none,[.pt 19 14 18,.m 20 19]⟩,
  ⟨some (20,false),[.f 21 4 3,.l 22 21,.c 23 205 [.t 22,.s [10,124]]]⟩,
  ⟨none,[.pt 24 20 23,.m 25 24]⟩,
  ⟨some (25,false),[.f 26 4 3,.l 27 26,.c 28 193 [.t 27,.s [32,9]],.f 29 4 3,.l 30 29,.b 31 .neq 28 30]⟩,
  ⟨none,[.pt 32 25 31]⟩]) <|
 .cond (.t 32)
  (.n [.mov (some 4) (.i 7)] <|
  .ret)
  (.skip)) <|
 .n [.mov (some 4) (.i 0)] <|
 .ret
def e174:C :=
 .n [.mov (some 4) (.i 0)] <|
 .seq (.n [.m 6 0,.ll 7 6,.mov (some 8) (.i 0)] <|
 .block 0 <|
  .loop <|
   .n [.b 9 .lss 8 7] <|
   .seq (.cond (.t 9)
    (.skip)
    (.exit 0)) <|
   .seq (.block 1 <|
    .n [.m 10 8,.m 5 10] <|
    .n [.m 11 1,.m 12 0,.m 13 5,.ia 14 1 12 13,.l 15 14,.b 16 .eql 11 15] <|
    .cond (.t 16)
     (.n [.m 17 5,.m 4 17] <|
     .ret)
     (.skip)) <|
   .o [.bi 18 .add 8 1,.m 8 18]) <|
 .n [.mov (some 4) (.k (.int .i64 (-1)))] <|
 .ret
def e175:C :=
 .n [.mov (some 4) (.i 0)] <|
 .seq (.n [.m 6 0,.ll 7 6,.mov (some 8) (.i 0)] <|
 .block 0 <|
  .loop <|
   .n [.b 9 .lss 8 7] <|
   .seq (.cond (.t 9)
    (.skip)
    (.exit 0)) <|
   .seq (.block 1 <|
    .n [.m 10 8,.m 5 10] <|
    .n [.m 11 1,.m 12 0,.m 13 5,.ia 14 1 12 13,.l 15 14,.vcall (some 16) 19 (.t 11) [.t 15]] <|
    .cond (.t 16)
     (.n [.m 17 5,.m 4 17] <|
     .ret)
     (.skip)) <|
   .o [.bi 18 .add 8 1,.m 8 18]) <|
 .n [.mov (some 4) (.k (.int .i64 (-1)))] <|
 .ret
def e176:C :=
 .n [.mov (some 8) (.k (.bool true))] <|
 .n [.mov (some 9) (.k (.bool true))] <|
 .block 0 <|
  .loop <|
   .block 1 <|
    .n [.m 19 2,.m 20 1,.b 21 .sub 19 20,.m 10 21] <|
    .seq (.n [.m 22 10,.bi 23 .leq 22 12] <|
    .cond (.t 23)
     (.n [.m 24 0,.m 25 1,.m 26 2,.e 27 134 217 [.t 24,.t 25,.t 26]] <|
     .ret)
     (.skip)) <|
    .seq (.n [.m 28 3,.bi 29 .eql 28 0] <|
    .cond (.t 29)
     (.n [.m 30 0,.m 31 1,.m 32 2,.c 33 218 [.t 30,.t 31,.t 32]] <|
     .ret)
     (.skip)) <|
    .seq (.n [.m 34 8,.un (some 35) .not (.t 34)] <|
    .cond (.t 35)
     (.n [.m 36 0,.m 37 1,.m 38 2,.c 39 219 [.t 36,.t 37,.t 38]] <|
     .o [.m 40 3,.bi 41 .sub 40 1,.m 3 41])
     (.skip)) <|
    .n [.m 43 0,.m 44 1,.m 45 2,.c 46 220 [.t 43,.t 44,.t 45],.m 42 46,.x 47 0 42,.x 48 1 42,.m 11 47,.m 12 48] <|
    .seq (.n [.m 49 12,.bi 50 .eql 49 2] <|
    .cond (.t 50)
     (.n [.m 51 0,.m 52 1,.m 53 2,.c 54 221 [.t 51,.t 52,.t 53]] <|
     .n [.m 55 2,.bi 56 .sub 55 1,.m 57 11,.m 58 1,.b 59 .sub 57 58,.b 60 .sub 56 59,.m 11 60] <|
     .o [.mov (some 12) (.i 1)])
     (.skip)) <|
    .seq (.seq (.ops false [⟨none,[.m 61 8,.m 62 61]⟩,
     ⟨some (62,true),[.m 63 9]⟩,
     ⟨none,[.pf 64 62 63,.m 65 64]⟩,
     ⟨some (65,true),[.m 66 12,.bi 67 .eql 66 1]⟩,
     ⟨none,[.pf 68 65 67]⟩]) <|
    .cond (.t 68)
     (.n [.m 69 0,.m 70 1,.m 71 2,.c 72 222 [.t 69,.t 70,.t 71]] <|
     .cond (.t 72)
      (.ret)
      (.skip))
     (.skip)) <|
    .seq (.seq (.ops true [⟨none,[.m 73 1,.bi 74 .gtr 73 0,.m 75 74]⟩,
     ⟨some (75,true),[.m 76 0,.m 77 1,.bi 78 .sub 77 1,.ia 79 1 76 78,.l 80 79,.m 81 0,.m 82 11,.ia 83 1 81 82,.l 84 83,.c 85 223 [.t 80,.t 84],.un (some 86) .not (.t 85)]⟩,
     ⟨none,[.pf 87 75 86]⟩]) <|
    .cond (.t 87)
     (.n [.m 88 0,.m 89 1,.m 90 2,.m 91 11,.c 92 224 [.t 88,.t 89,.t 90,.t 91],.m 13 92] <|
     .n [.m 93 13,.m 1 93] <|
     .exit 1)
     (.skip)) <|
    .n [.m 95 0,.m 96 1,.m 97 2,.m 98 11,.c 99 225 [.t 95,.t 96,.t 97,.t 98],.m 94 99,.x 100 0 94,.x 101 1 94,.m 14 100,.m 15 101] <|
    .n [.m 102 15,.m 9 102] <|
    .n [.m 103 14,.m 104 1,.b 105 .sub 103 104,.m 106 2,.m 107 14,.b 108 .sub 106 107,.m 16 105,.m 17 108] <|
    .n [.m 109 10,.bi 110 .quo 109 8,.m 18 110] <|
    .n [.m 111 16,.m 112 17,.b 113 .lss 111 112] <|
    .cond (.t 113)
     (.n [.m 114 16,.m 115 18,.b 116 .geq 114 115,.m 8 116] <|
     .n [.m 117 0,.m 118 1,.m 119 14,.m 120 3,.e 121 134 176 [.t 117,.t 118,.t 119,.t 120]] <|
     .o [.m 122 14,.bi 123 .add 122 1,.m 1 123])
     (.n [.m 124 17,.m 125 18,.b 126 .geq 124 125,.m 8 126] <|
     .n [.m 127 0,.m 128 14,.bi 129 .add 128 1,.m 130 2,.m 131 3,.e 132 134 176 [.t 127,.t 129,.t 130,.t 131]] <|
     .o [.m 133 14,.m 2 133])
def e177:C :=
 .n [.mov (some 2) (.i 0)] <|
 .seq (.cond (.k (.bool false))
  (.n [.m 3 0,.cvt (some 4) .u32 (.t 3),.c 5 226 [.t 4],.m 2 5] <|
  .ret)
  (.skip)) <|
 .n [.m 6 0,.c 7 227 [.t 6],.m 2 7] <|
 .ret
def e178:C :=
 .n [.box 1 29 (.t 0),.mov (some 2) (.k .nils)] <|
 .seq (.n [.load (some 5) false 2 true (.t 1),.c 6 59 [.t 5],.un (some 7) .not (.t 6)] <|
 .cond (.t 7)
  (.n [.mov (some 2) (.k .nils)] <|
  .ret)
  (.skip)) <|
 .n [.mov (some 3) (.k .nils)] <|
 .seq (.n [.mov (some 4) (.i 0)] <|
 .block 0 <|
  .loop <|
   .seq (.n [.m 8 4,.f 9 1 1,.l 10 9,.ls 11 10,.b 12 .lss 8 11] <|
   .cond (.t 12)
    (.skip)
    (.exit 0)) <|
   .seq (.block 1 <|
    .n [.f 15 1 1,.l 16 15,.m 17 4,.ix 18 16 17,.bin (some 19) .eql (.t 18) (.k (.int .u8 47))] <|
    .cond (.t 19)
     (.p [.m 20 3,.f 21 0 1,.l 22 21,.f 23 1 1,.l 24 23,.m 25 4,.slcS (some 26) (.t 24) none (some (.t 25)),.build (some 27) [(.int .i64 0),(.str [])] [(0,1,(.t 22)),(1,1,(.t 26))],.mkl (some 28) 2 [.t 27],.app 29 29 2 (.t 20) (.t 28),.m 3 29])
     (.skip)) <|
   .o [.m 13 4,.bi 14 .add 13 1,.m 4 14]) <|
 .n [.m 30 3,.m 2 30] <|
 .ret
def e179:C :=
 .n [.m 4 0,.ll 5 4,.bi 6 .sub 5 1,.mov (some 2) (.i 0),.m 3 6] <|
 .block 0 <|
  .loop <|
   .seq (.n [.m 7 2,.m 8 3,.b 9 .lss 7 8] <|
   .cond (.t 9)
    (.skip)
    (.exit 0)) <|
   .seq (.block 1 <|
    .p [.m 14 0,.m 15 2,.m 16 0,.m 17 3,.m 18 0,.m 19 3,.ia 20 2 18 19,.load (some 21) false 2 true (.t 20),.m 22 0,.m 23 2,.ia 24 2 22 23,.load (some 25) false 2 true (.t 24),.ia 26 2 14 15,.store 2 (.t 26) (.t 21),.ia 27 2 16 17,.store 2 (.t 27) (.t 25)]) <|
   .o [.m 10 2,.bi 11 .add 10 1,.m 12 3,.bi 13 .sub 12 1,.m 2 11,.m 3 13]
def e180:C :=
 .n [.mov (some 2) (.s [])] <|
 .seq (.n [.m 3 0,.bi 4 .eql 3 0] <|
 .cond (.t 4)
  (.n [.mov (some 2) (.s [60,77,97,105,110,62])] <|
  .ret)
  (.skip)) <|
 .n [.m 5 0,.c 6 137 [.t 5],.bin (some 7) .add (.s [60]) (.t 6),.bin (some 8) .add (.t 7) (.s [62]),.m 2 8] <|
 .ret
def e181:C :=
 .n [.alloc 2 29 [(.int .i64 0),(.str [])],.mov (some 3) (.i 0)] <|
 .n [.m 9 0,.c 10 228 [.t 9],.m 0 10] <|
 .seq (.seq (.ops false [⟨none,[.m 11 0,.ls 12 11,.bi 13 .gtr 12 0,.m 14 13]⟩,
  ⟨some (14,true),[.m 15 0,.idx (some 16) (.t 15) (.i 0),.bin (some 17) .eql (.t 16) (.k (.int .u8 58))]⟩,
  ⟨none,[.pf 18 14 17]⟩]) <|
 .cond (.t 18)
  (.o [.m 19 0,.c 20 229 [.t 19,.i 1],.m 0 20])
  (.skip)) <|
 .n [.m 22 0,.c 23 90 [.t 22],.m 21 23,.x 24 0 21,.x 25 1 21,.m 4 24,.m 5 25] <|
 .seq (.n [.m 26 4,.bi 27 .gtr 26 0] <|
 .cond (.t 27)
  (.o [.m 28 0,.m 29 5,.bi 30 .add 29 1,.c 31 229 [.t 28,.t 30],.m 0 31])
  (.skip)) <|
 .n [.mov (some 6) (.s [])] <|
 .seq (.n [.mov (some 7) (.i 0)] <|
 .block 0 <|
  .loop <|
   .seq (.n [.m 32 7,.m 33 0,.ls 34 33,.b 35 .lss 32 34] <|
   .cond (.t 35)
    (.skip)
    (.exit 0)) <|
   .seq (.block 1 <|
    .seq (.seq (.ops false [⟨none,[.m 38 0,.m 39 7,.ix 40 38 39,.bin (some 41) .eql (.t 40) (.k (.int .u8 32)),.m 42 41]⟩,
     ⟨some (42,true),[.m 43 7,.bi 44 .gtr 43 0,.m 45 44]⟩,
     ⟨some (45,true),[.m 46 0,.m 47 7,.bi 48 .sub 47 1,.ix 49 46 48,.bin (some 50) .eql (.t 49) (.k (.int .u8 47))]⟩,
     ⟨some (42,true),[.pf 51 45 50,.m 52 51]⟩,
     ⟨some (52,false),[.m 53 7,.bi 54 .add 53 1,.m 55 0,.ls 56 55,.b 57 .lss 54 56,.m 58 57]⟩,
     ⟨some (58,true),[.m 59 0,.m 60 7,.bi 61 .add 60 1,.ix 62 59 61,.bin (some 63) .eql (.t 62) (.k (.int .u8 47))]⟩,
     ⟨some (52,false),[.pf 64 58 63]⟩,
     ⟨some (42,true),[.pt 65 52 64]⟩,
     ⟨none,[.pf 66 42 65]⟩]) <|
    .cond (.t 66)
     (.exit 1)
     (.skip)) <|
    .o [.m 67 6,.m 68 0,.m 69 7,.m 70 7,.bi 71 .add 70 1,.slcS (some 72) (.t 68) (some (.t 69)) (some (.t 71)),.b 73 .add 67 72,.m 6 73]) <|
   .o [.m 36 7,.bi 37 .add 36 1,.m 7 37]) <|
 .seq (.seq (.ops false [⟨none,[.m 74 6,.ls 75 74,.bi 76 .gtr 75 0,.m 77 76]⟩,
  ⟨some (77,true),[.m 78 6,.idx (some 79) (.t 78) (.i 0),.bin (some 80) .geq (.t 79) (.k (.int .u8 97))]⟩,
  ⟨none,[.pf 81 77 80,.m 82 81]⟩,
  ⟨some (82,true),[.m 83 6,.idx (some 84) (.t 83) (.i 0),.bin (some 85) .leq (.t 84) (.k (.int .u8 122))]⟩,
  ⟨none,[.pf 86 82 85]⟩]) <|
 .cond (.t 86)
  (.p [.m 87 6,.idx (some 88) (.t 87) (.i 0),.bin (some 89) .sub (.t 88) (.k (.int .u8 32)),.mkl (some 90) 1 [.t 89],.b2s (some 91) (.t 90),.m 92 6,.slcS (some 93) (.t 92) (some (.i 1)) none,.b 94 .add 91 93,.m 6 94])
  (.skip)) <|
 .seq (.n [.m 95 6,.ls 96 95,.bi 97 .gtr 96 100] <|
 .cond (.t 97)
  (.n [.build (some 98) [(.int .i64 0),(.str [])] [],.store 2 (.t 2) (.t 98),.mov (some 3) (.i 3)] <|
  .ret)
  (.skip)) <|
 .n [.m 99 4,.m 100 6,.build (some 101) [(.int .i64 0),(.str [])] [(0,1,(.t 99)),(1,1,(.t 100))],.alloc 8 29 [(.int .i64 0),(.str [])],.store 2 (.t 8) (.t 101)] <|
 .seq (.n [.load (some 102) false 2 true (.t 8),.c 103 47 [.t 102],.un (some 104) .not (.t 103)] <|
 .cond (.t 104)
  (.n [.build (some 105) [(.int .i64 0),(.str [])] [],.store 2 (.t 2) (.t 105),.mov (some 3) (.i 1)] <|
  .ret)
  (.skip)) <|
 .n [.load (some 106) false 2 true (.t 8),.store 2 (.t 2) (.t 106),.mov (some 3) (.i 0)] <|
 .ret
def e182:C :=
 .n [.mov (some 2) (.s [])] <|
 .seq (.block 0 <|
  .loop <|
   .seq (.seq (.ops false [⟨none,[.m 3 0,.ls 4 3,.bi 5 .gtr 4 0,.m 6 5]⟩,
    ⟨some (6,true),[.m 7 0,.idx (some 8) (.t 7) (.i 0),.bin (some 9) .eql (.t 8) (.k (.int .u8 9)),.m 10 9]⟩,
    ⟨some (10,false),[.m 11 0,.idx (some 12) (.t 11) (.i 0),.bin (some 13) .eql (.t 12) (.k (.int .u8 32))]⟩,
    ⟨some (6,true),[.pt 14 10 13]⟩,
    ⟨none,[.pf 15 6 14]⟩]) <|
   .cond (.t 15)
    (.skip)
    (.exit 0)) <|
   .block 1 <|
    .o [.m 16 0,.slcS (some 17) (.t 16) (some (.i 1)) none,.m 0 17]) <|
 .n [.m 18 0,.c 19 230 [.t 18],.m 2 19] <|
 .ret
def e183:C :=
 .n [.mov (some 2) (.k (.bool false))] <|
 .seq (.ops false [⟨none,[.m 3 0,.bin (some 4) .eql (.t 3) (.s [97,108,108]),.m 5 4]⟩,
  ⟨some (5,false),[.m 6 0,.bin (some 7) .eql (.t 6) (.s [117,115,101,114,115])]⟩,
  ⟨none,[.pt 8 5 7,.m 2 8]⟩]) <|
 .ret
def e184:C :=
 .n [.mov (some 2) (.k (.int .u8 0))] <|
 .seq (.seq (.ops false [⟨none,[.m 3 0,.bin (some 4) .geq (.t 3) (.k (.int .u8 65)),.m 5 4]⟩,
  ⟨some (5,true),[.m 6 0,.bin (some 7) .leq (.t 6) (.k (.int .u8 90))]⟩,
  ⟨none,[.pf 8 5 7]⟩]) <|
 .cond (.t 8)
  (.n [.m 9 0,.bin (some 10) .add (.t 9) (.k (.int .u8 32)),.m 2 10] <|
  .ret)
  (.skip)) <|
 .n [.m 11 0,.m 2 11] <|
 .ret
def e185:C :=
 .n [.box 1 29 (.t 0),.mov (some 2) (.s [])] <|
 .seq (.n [.load (some 3) false 2 true (.t 1),.c 4 47 [.t 3],.un (some 5) .not (.t 4)] <|
 .cond (.t 5)
  (.n [.mov (some 2) (.s [])] <|
  .ret)
  (.skip)) <|
 .seq (.n [.f 6 0 1,.l 7 6,.bi 8 .eql 7 0] <|
 .cond (.t 8)
  (.n [.f 9 1 1,.l 10 9,.m 2 10] <|
  .ret)
  (.skip)) <|
 .seq (.p [.f 11 0 1,.l 12 11,.c 13 137 [.t 12],.bin (some 14) .add (.t 13) (.s [58]),.f 15 1 1,.l 16 15,.b 17 .add 14 16,.m 2 17]) <|
 .ret
def e197:C :=
 .n [.mov (some 0) (.k .nils)] <|
 .n [.mkl (some 1) 1 [.s [114,101,97,100],.s [101,100,105,116],.s [109,111,118,101],.s [100,101,108,101,116,101],.s [114,101,118,105,101,119]],.m 0 1] <|
 .ret
def e198:C :=
 .n [.mov (some 0) (.k .nils)] <|
 .n [.mkl (some 1) 1 [.s [60,77,97,105,110,62],.s [60,84,97,108,107,62],.s [60,85,115,101,114,62],.s [60,84,101,109,112,108,97,116,101,62],.s [60,67,97,116,101,103,111,114,121,62],.s [60,80,114,111,106,101,99,116,62]],.m 0 1] <|
 .ret
def e199:C :=
 .n [.alloc 2 29 [(.int .i64 0),(.str [])],.mov (some 3) (.i 0)] <|
 .n [.m 8 0,.c 9 250 [.t 8,.s [95],.s [32]],.c 10 249 [.t 9],.m 0 10] <|
 .seq (.n [.m 11 0,.c 12 251 [.t 11,.s [58]]] <|
 .cond (.t 12)
  (.o [.m 13 0,.slcS (some 14) (.t 13) (some (.i 1)) none,.c 15 252 [.t 14,.s [32]],.m 0 15])
  (.skip)) <|
 .n [.build (some 16) [(.int .i64 0),(.str [])] [],.alloc 4 29 [(.int .i64 0),(.str [])],.store 2 (.t 4) (.t 16)] <|
 .seq (.n [.m 18 0,.c 19 108 [.t 18],.m 17 19,.x 20 0 17,.x 21 1 17,.x 22 2 17,.m 5 20,.m 6 21,.m 7 22] <|
 .n [.m 23 7] <|
 .cond (.t 23)
  (.o [.m 24 5,.m 25 6,.c 26 252 [.t 25,.s [32]],.f 27 0 4,.store 1 (.t 27) (.t 24),.m 0 26])
  (.skip)) <|
 .n [.m 28 0,.c 29 253 [.t 28],.m 0 29] <|
 .seq (.seq (.ops false [⟨none,[.m 30 0,.bin (some 31) .neq (.t 30) (.s []),.m 32 31]⟩,
  ⟨some (32,true),[.m 33 0,.idx (some 34) (.t 33) (.i 0),.bin (some 35) .geq (.t 34) (.k (.int .u8 97))]⟩,
  ⟨none,[.pf 36 32 35,.m 37 36]⟩,
  ⟨some (37,true),[.m 38 0,.idx (some 39) (.t 38) (.i 0),.bin (some 40) .leq (.t 39) (.k (.int .u8 122))]⟩,
  ⟨none,[.pf 41 37 40]⟩]) <|
 .cond (.t 41)
  (.p [.m 42 0,.idx (some 43) (.t 42) (.i 0),.bin (some 44) .sub (.t 43) (.k (.int .u8 32)),.mkl (some 45) 1 [.t 44],.b2s (some 46) (.t 45),.m 47 0,.slcS (some 48) (.t 47) (some (.i 1)) none,.b 49 .add 46 48,.m 0 49])
  (.skip)) <|
 .n [.m 50 0,.f 51 1 4,.store 1 (.t 51) (.t 50)] <|
 .seq (.n [.m 52 0,.ls 53 52,.bi 54 .gtr 53 100] <|
 .cond (.t 54)
  (.n [.build (some 55) [(.int .i64 0),(.str [])] [],.store 2 (.t 2) (.t 55),.mov (some 3) (.i 3)] <|
  .ret)
  (.skip)) <|
 .seq (.n [.load (some 56) false 2 true (.t 4),.c 57 59 [.t 56],.un (some 58) .not (.t 57)] <|
 .cond (.t 58)
  (.n [.build (some 59) [(.int .i64 0),(.str [])] [],.store 2 (.t 2) (.t 59),.mov (some 3) (.i 1)] <|
  .ret)
  (.skip)) <|
 .n [.load (some 60) false 2 true (.t 4),.store 2 (.t 2) (.t 60),.mov (some 3) (.i 0)] <|
 .ret
def e200:C :=
 .n [.mov (some 2) (.k (.bool false))] <|
 .seq (.ops false [⟨none,[.m 3 0,.bin (some 4) .eql (.t 3) (.s [97,108,108]),.m 5 4]⟩,
  ⟨some (5,false),[.m 6 0,.bin (some 7) .eql (.t 6) (.s [117,115,101,114,115])]⟩,
  ⟨none,[.pt 8 5 7,.m 2 8]⟩]) <|
 .ret
def e201:C :=
 .n [.mov (some 4) (.k (.bool false))] <|
 .n [.m 5 0,.m 6 1,.c 7 254 [.t 5,.t 6],.bi 8 .geq 7 0,.m 4 8] <|
 .ret
def e202:C :=
 .n [.box 2 116 (.t 0),.mov (some 3) (.k (.bool false))] <|
 .n [.f 4 0 2,.l 5 4,.f 6 0 1,.l 7 6,.b 8 .eql 5 7,.m 3 8] <|
 .ret
def e203:C :=
 .n [.mov (some 4) (.s []),.mov (some 5) (.k (.bool false))] <|
 .n [.m 6 0,.m 7 1,.c 8 255 [.t 6,.t 7],.x 9 0 8,.x 10 1 8,.m 4 9,.m 5 10] <|
 .ret
def e204:C :=
 .n [.box 2 53 (.t 0),.box 3 9 (.t 1),.mov (some 4) (.k (.bool false))] <|
 .seq (.ops false [⟨none,[.l 5 3,.c 6 200 [.t 5],.m 7 6]⟩,
  ⟨some (7,false),[.f 8 0 2,.l 9 8,.clos (some 10) 256 [.t 3],.call (some 11) false 201 [.t 9,.t 10]]⟩,
  ⟨none,[.pt 12 7 11,.m 4 12]⟩]) <|
 .ret
def e217:C :=
 .n [.m 8 1,.bi 9 .add 8 1,.m 6 9] <|
 .block 0 <|
  .loop <|
   .seq (.n [.m 10 6,.m 11 2,.b 12 .lss 10 11] <|
   .cond (.t 12)
    (.skip)
    (.exit 0)) <|
   .seq (.block 1 <|
    .n [.m 15 6,.m 7 15] <|
    .block 2 <|
     .loop <|
      .seq (.seq (.ops true [⟨none,[.m 16 7,.m 17 1,.b 18 .gtr 16 17,.m 19 18]⟩,
       ⟨some (19,true),[.m 20 0,.m 21 7,.ia 22 1 20 21,.l 23 22,.m 24 0,.m 25 7,.bi 26 .sub 25 1,.ia 27 1 24 26,.l 28 27,.c 29 223 [.t 23,.t 28]]⟩,
       ⟨none,[.pf 30 19 29]⟩]) <|
      .cond (.t 30)
       (.skip)
       (.exit 2)) <|
      .seq (.block 3 <|
       .p [.m 33 0,.m 34 7,.m 35 0,.m 36 7,.bi 37 .sub 36 1,.m 38 0,.m 39 7,.bi 40 .sub 39 1,.ia 41 1 38 40,.l 42 41,.m 43 0,.m 44 7,.ia 45 1 43 44,.l 46 45,.ia 47 1 33 34,.store 1 (.t 47) (.t 42),.ia 48 1 35 37,.store 1 (.t 48) (.t 46)]) <|
      .o [.m 31 7,.bi 32 .sub 31 1,.m 7 32]) <|
   .o [.m 13 6,.bi 14 .add 13 1,.m 6 14]
def e223:C :=
 .n [.mov (some 4) (.k (.bool false))] <|
 .seq (.ops false [⟨none,[.m 5 0,.c 6 267 [.t 5],.m 7 6]⟩,
  ⟨some (7,true),[.m 8 1,.c 9 267 [.t 8],.un (some 10) .not (.t 9)]⟩,
  ⟨none,[.pf 11 7 10,.m 12 11]⟩,
  ⟨some (12,false),[.m 13 0,.m 14 1,.b 15 .lss 13 14]⟩,
  ⟨none,[.pt 16 12 15,.m 4 16]⟩]) <|
 .ret
def e227:C :=
 .n [.mov (some 2) (.i 0)] <|
 .seq (.n [.m 3 0,.bin (some 4) .geq (.t 3) (.k (.int .u64 4294967296))] <|
 .cond (.t 4)
  (.n [.m 5 0,.bin (some 6) .shr (.t 5) (.k (.int .u64 32)),.m 0 6] <|
  .o [.mov (some 2) (.i 32)])
  (.skip)) <|
 .seq (.n [.m 7 0,.bin (some 8) .geq (.t 7) (.k (.int .u64 65536))] <|
 .cond (.t 8)
  (.n [.m 9 0,.bin (some 10) .shr (.t 9) (.k (.int .u64 16)),.m 0 10] <|
  .o [.m 11 2,.bi 12 .add 11 16,.m 2 12])
  (.skip)) <|
 .seq (.n [.m 13 0,.bin (some 14) .geq (.t 13) (.k (.int .u64 256))] <|
 .cond (.t 14)
  (.n [.m 15 0,.bin (some 16) .shr (.t 15) (.k (.int .u64 8)),.m 0 16] <|
  .o [.m 17 2,.bi 18 .add 17 8,.m 2 18])
  (.skip)) <|
 .n [.m 19 2,.m 20 0,.cvt (some 21) .u8 (.t 20),.idx (some 22) (.s [0,1,2,2,3,3,3,3,4,4,4,4,4,4,4,4,5,5,5,5,5,5,5,5,5,5,5,5,5,5,5,5,6,6,6,6,6,6,6,6,6,6,6,6,6,6,6,6,6,6,6,6,6,6,6,6,6,6,6,6,6,6,6,6,7,7,7,7,7,7,7,7,7,7,7,7,7,7,7,7,7,7,7,7,7,7,7,7,7,7,7,7,7,7,7,7,7,7,7,7,7,7,7,7,7,7,7,7,7,7,7,7,7,7,7,7,7,7,7,7,7,7,7,7,7,7,7,7,8,8,8,8,8,8,8,8,8,8,8,8,8,8,8,8,8,8,8,8,8,8,8,8,8,8,8,8,8,8,8,8,8,8,8,8,8,8,8,8,8,8,8,8,8,8,8,8,8,8,8,8,8,8,8,8,8,8,8,8,8,8,8,8,8,8,8,8,8,8,8,8,8,8,8,8,8,8,8,8,8,8,8,8,8,8,8,8,8,8,8,8,8,8,8,8,8,8,8,8,8,8,8,8,8,8,8,8,8,8,8,8,8,8,8,8,8,8,8,8,8,8,8,8,8,8,8,8]) (.t 21),.cvt (some 23) .i64 (.t 22),.b 24 .add 19 23,.m 2 24] <|
 .ret
def e228:C :=
 .n [.mov (some 2) (.s [])] <|
 .n [.mov (some 3) (.s [])] <|
 .seq (.n [.mov (some 4) (.i 0)] <|
 .block 0 <|
  .loop <|
   .seq (.n [.m 6 4,.m 7 0,.ls 8 7,.b 9 .lss 6 8] <|
   .cond (.t 9)
    (.skip)
    (.exit 0)) <|
   .seq (.block 1 <|
    .n [.m 12 0,.m 13 4,.m 14 4,.bi 15 .add 14 1,.slcS (some 16) (.t 12) (some (.t 13)) (some (.t 15)),.m 5 16] <|
    .seq (.n [.m 17 5,.bin (some 18) .eql (.t 17) (.s [95])] <|
    .cond (.t 18)
     (.o [.mov (some 5) (.s [32])])
     (.skip)) <|
    .seq (.seq (.ops false [⟨none,[.m 19 5,.bin (some 20) .eql (.t 19) (.s [32]),.m 21 20]⟩,
     ⟨some (21,true),[.m 22 3,.bin (some 23) .eql (.t 22) (.s []),.m 24 23]⟩,
     ⟨some (24,false),[.m 25 3,.m 26 3,.ls 27 26,.bi 28 .sub 27 1,.ix 29 25 28,.bin (some 30) .eql (.t 29) (.k (.int .u8 32))]⟩,
     ⟨some (21,true),[.pt 31 24 30]⟩,
     ⟨none,[.pf 32 21 31]⟩]) <|
    .cond (.t 32)
     (.exit 1)
     (.skip)) <|
    .o [.m 33 3,.m 34 5,.b 35 .add 33 34,.m 3 35]) <|
   .o [.m 10 4,.bi 11 .add 10 1,.m 4 11]) <|
 .seq (.seq (.ops false [⟨none,[.m 36 3,.ls 37 36,.bi 38 .gtr 37 0,.m 39 38]⟩,
  ⟨some (39,true),[.m 40 3,.m 41 3,.ls 42 41,.bi 43 .sub 42 1,.ix 44 40 43,.bin (some 45) .eql (.t 44) (.k (.int .u8 32))]⟩,
  ⟨none,[.pf 46 39 45]⟩]) <|
 .cond (.t 46)
  (.o [.m 47 3,.m 48 3,.ls 49 48,.bi 50 .sub 49 1,.slcS (some 51) (.t 47) none (some (.t 50)),.m 3 51])
  (.skip)) <|
 .n [.m 52 3,.m 2 52] <|
 .ret
def e229:C :=
 .n [.mov (some 4) (.s [])] <|
 .n [.m 5 0,.m 6 1,.slcS (some 7) (.t 5) (some (.t 6)) none,.m 0 7] <|
 .seq (.seq (.ops false [⟨none,[.m 8 0,.ls 9 8,.bi 10 .gtr 9 0,.m 11 10]⟩,
  ⟨some (11,true),[.m 12 0,.idx (some 13) (.t 12) (.i 0),.bin (some 14) .eql (.t 13) (.k (.int .u8 32))]⟩,
  ⟨none,[.pf 15 11 14]⟩]) <|
 .cond (.t 15)
  (.o [.m 16 0,.slcS (some 17) (.t 16) (some (.i 1)) none,.m 0 17])
  (.skip)) <|
 .n [.m 18 0,.m 4 18] <|
 .ret
def e230:C :=
 .n [.mov (some 2) (.s [])] <|
 .seq (.block 0 <|
  .loop <|
   .seq (.seq (.ops false [⟨none,[.m 3 0,.ls 4 3,.bi 5 .gtr 4 0,.m 6 5]⟩,
    ⟨some (6,true),[.m 7 0,.m 8 0,.ls 9 8,.bi 10 .sub 9 1,.ix 11 7 10,.bin (some 12) .eql (.t 11) (.k (.int .u8 9)),.m 13 12]⟩,
    ⟨some (13,false),[.m 14 0,.m 15 0,.ls 16 15,.bi 17 .sub 16 1,.ix 18 14 17,.bin (some 19) .eql (.t 18) (.k (.int .u8 32))]⟩,
    ⟨some (6,true),[.pt 20 13 19]⟩,
    ⟨none,[.pf 21 6 20]⟩]) <|
   .cond (.t 21)
    (.skip)
    (.exit 0)) <|
   .block 1 <|
    .o [.m 22 0,.m 23 0,.ls 24 23,.bi 25 .sub 24 1,.slcS (some 26) (.t 22) none (some (.t 25)),.m 0 26]) <|
 .n [.m 27 0,.m 2 27] <|
 .ret
def e239:C :=
 .n [.mov (some 4) (.s [])] <|
 .seq (.block 0 <|
  .loop <|
   .seq (.seq (.ops false [⟨none,[.m 5 0,.ls 6 5,.bi 7 .gtr 6 0,.m 8 7]⟩,
    ⟨some (8,true),[.m 9 0,.idx (some 10) (.t 9) (.i 0),.m 11 1,.b 12 .eql 10 11]⟩,
    ⟨none,[.pf 13 8 12]⟩]) <|
   .cond (.t 13)
    (.skip)
    (.exit 0)) <|
   .block 1 <|
    .o [.m 14 0,.slcS (some 15) (.t 14) (some (.i 1)) none,.m 0 15]) <|
 .n [.m 16 0,.m 4 16] <|
 .ret
def e240:C :=
 .n [.mov (some 4) (.s [])] <|
 .seq (.block 0 <|
  .loop <|
   .seq (.seq (.ops false [⟨none,[.m 5 0,.ls 6 5,.bi 7 .gtr 6 0,.m 8 7]⟩,
    ⟨some (8,true),[.m 9 0,.m 10 0,.ls 11 10,.bi 12 .sub 11 1,.ix 13 9 12,.m 14 1,.b 15 .eql 13 14]⟩,
    ⟨none,[.pf 16 8 15]⟩]) <|
   .cond (.t 16)
    (.skip)
    (.exit 0)) <|
   .block 1 <|
    .o [.m 17 0,.m 18 0,.ls 19 18,.bi 20 .sub 19 1,.slcS (some 21) (.t 17) none (some (.t 20)),.m 0 21]) <|
 .n [.m 22 0,.m 4 22] <|
 .ret
def e249:C :=
 .n [.mov (some 2) (.s [])] <|
 .n [.m 5 0,.ls 6 5,.mk0 7 5 1 (.t 6),.m 3 7] <|
 .seq (.n [.mov (some 4) (.i 0)] <|
 .block 0 <|
  .loop <|
   .seq (.n [.m 8 4,.m 9 0,.ls 10 9,.b 11 .lss 8 10] <|
   .cond (.t 11)
    (.skip)
    (.exit 0)) <|
   .seq (.block 1 <|
    .seq (.ops false [⟨none,[.m 14 0,.m 15 4,.ix 16 14 15,.bin (some 17) .neq (.t 16) (.k (.int .u8 32)),.m 18 17]⟩,
     ⟨some (18,false),[.m 19 3,.ll 20 19,.bi 21 .gtr 20 0,.m 22 21]⟩,
     ⟨some (22,true),[.m 23 3,.m 24 3,.ll 25 24,.bi 26 .sub 25 1,.ia 27 1 23 26,.l 28 27,.bin (some 29) .neq (.t 28) (.k (.int .u8 32))]⟩,
     ⟨some (18,false),[.pf 30 22 29]⟩,
     ⟨none,[.pt 31 18 30]⟩]) <|
    .cond (.t 31)
     (.o [.m 32 3,.m 33 0,.m 34 4,.ix 35 33 34,.mkl (some 36) 1 [.t 35],.app 37 5 1 (.t 32) (.t 36),.m 3 37])
     (.skip)) <|
   .o [.m 12 4,.bi 13 .add 12 1,.m 4 13]) <|
 .n [.m 38 3,.b2s (some 39) (.t 38),.c 40 153 [.t 39,.s [32]],.m 2 40] <|
 .ret
def e251:C :=
 .n [.mov (some 4) (.k (.bool false))] <|
 .n [.m 5 0,.m 6 1,.c 7 277 [.t 5,.t 6],.m 4 7] <|
 .ret
def e252:C :=
 .n [.mov (some 4) (.s [])] <|
 .n [.m 5 0,.m 6 1,.c 7 278 [.t 5,.t 6],.m 4 7] <|
 .ret
def e253:C :=
 .n [.mov (some 2) (.s [])] <|
 .n [.m 5 0,.c 6 107 [.t 5,.s [47]],.m 3 6] <|
 .seq (.n [.m 7 3,.ll 8 7,.mov (some 9) (.i 0)] <|
 .block 0 <|
  .loop <|
   .n [.b 10 .lss 9 8] <|
   .seq (.cond (.t 10)
    (.skip)
    (.exit 0)) <|
   .seq (.block 1 <|
    .n [.m 11 9,.m 4 11] <|
    .seq (.n [.m 12 4,.bi 13 .gtr 12 0] <|
    .cond (.t 13)
     (.o [.m 14 3,.m 15 4,.m 16 3,.m 17 4,.ia 18 1 16 17,.l 19 18,.c 20 279 [.t 19,.s [32]],.ia 21 1 14 15,.store 1 (.t 21) (.t 20)])
     (.skip)) <|
    .n [.m 22 4,.m 23 3,.ll 24 23,.bi 25 .sub 24 1,.b 26 .lss 22 25] <|
    .cond (.t 26)
     (.o [.m 27 3,.m 28 4,.m 29 3,.m 30 4,.ia 31 1 29 30,.l 32 31,.c 33 280 [.t 32,.s [32]],.ia 34 1 27 28,.store 1 (.t 34) (.t 33)])
     (.skip)) <|
   .o [.bi 35 .add 9 1,.m 9 35]) <|
 .n [.m 36 3,.c 37 281 [.t 36,.s [47]],.m 2 37] <|
 .ret
def e254:C :=
 .n [.mov (some 4) (.i 0)] <|
 .seq (.n [.m 6 0,.ll 7 6,.mov (some 8) (.i 0)] <|
 .block 0 <|
  .loop <|
   .n [.b 9 .lss 8 7] <|
   .seq (.cond (.t 9)
    (.skip)
    (.exit 0)) <|
   .seq (.block 1 <|
    .n [.m 10 8,.m 5 10] <|
    .n [.m 11 1,.m 12 0,.m 13 5,.ia 14 2 12 13,.load (some 15) false 2 true (.t 14),.vcall (some 16) 19 (.t 11) [.t 15]] <|
    .cond (.t 16)
     (.n [.m 17 5,.m 4 17] <|
     .ret)
     (.skip)) <|
   .o [.bi 18 .add 8 1,.m 8 18]) <|
 .n [.mov (some 4) (.k (.int .i64 (-1)))] <|
 .ret
def e255:C :=
 .n [.mov (some 4) (.s []),.mov (some 5) (.k (.bool false))] <|
 .seq (.n [.m 6 0,.m 7 1,.c 8 277 [.t 6,.t 7],.un (some 9) .not (.t 8)] <|
 .cond (.t 9)
  (.n [.m 10 0,.m 4 10,.mov (some 5) (.k (.bool false))] <|
  .ret)
  (.skip)) <|
 .n [.m 11 0,.m 12 1,.ls 13 12,.slcS (some 14) (.t 11) (some (.t 13)) none,.m 4 14,.mov (some 5) (.k (.bool true))] <|
 .ret
def e256:C :=
 .n [.box 2 116 (.t 0),.mov (some 3) (.k (.bool false))] <|
 .n [.f 4 0 2,.l 5 4,.l 6 1,.b 7 .eql 5 6,.m 3 7] <|
 .ret
def e267:C :=
 .n [.mov (some 2) (.k (.bool false))] <|
 .n [.m 3 0,.m 4 0,.b 5 .neq 3 4,.m 2 5] <|
 .ret
def e277:C :=
 .n [.mov (some 4) (.k (.bool false))] <|
 .seq (.ops false [⟨none,[.m 5 0,.ls 6 5,.m 7 1,.ls 8 7,.b 9 .geq 6 8,.m 10 9]⟩,
  ⟨some (10,true),[.m 11 0,.m 12 1,.ls 13 12,.slcS (some 14) (.t 11) none (some (.t 13)),.m 15 1,.b 16 .eql 14 15]⟩,
  ⟨none,[.pf 17 10 16,.m 4 17]⟩]) <|
 .ret
def e278:C :=
 .n [.mov (some 4) (.s [])] <|
 .seq (.n [.m 5 0,.m 6 1,.c 7 277 [.t 5,.t 6]] <|
 .cond (.t 7)
  (.n [.m 8 0,.m 9 1,.ls 10 9,.slcS (some 11) (.t 8) (some (.t 10)) none,.m 4 11] <|
  .ret)
  (.skip)) <|
 .n [.m 12 0,.m 4 12] <|
 .ret
def e279:C :=
 .n [.mov (some 4) (.s [])] <|
 .seq (.seq (.ops false [⟨none,[.m 7 0,.bin (some 8) .eql (.t 7) (.s []),.m 9 8]⟩,
  ⟨some (9,false),[.m 10 1,.bin (some 11) .eql (.t 10) (.s [])]⟩,
  ⟨none,[.pt 12 9 11]⟩]) <|
 .cond (.t 12)
  (.n [.m 13 0,.m 4 13] <|
  .ret)
  (.skip)) <|
 .seq (.seq (.ops false [⟨none,[.m 14 1,.ls 15 14,.bi 16 .eql 15 1,.m 17 16]⟩,
  ⟨some (17,true),[.m 18 1,.idx (some 19) (.t 18) (.i 0),.bin (some 20) .lss (.t 19) (.k (.int .u8 128))]⟩,
  ⟨none,[.pf 21 17 20]⟩]) <|
 .cond (.t 21)
  (.n [.m 22 0,.m 23 1,.idx (some 24) (.t 23) (.i 0),.c 25 239 [.t 22,.t 24],.m 4 25] <|
  .ret)
  (.skip)) <|
 .seq (.n [.m 27 1,.c 28 241 [.t 27],.m 26 28,.x 29 0 26,.x 30 1 26,.alloc 5 292 [(.bool false),(.bool false),(.bool false),(.bool false),(.bool false),(.bool false),(.bool false),(.bool false),(.bool false),(.bool false),(.bool false),(.bool false),(.bool false),(.bool false),(.bool false),(.bool false),(.bool false),(.bool false),(.bool false),(.bool false),(.bool false),(.bool false),(.bool false),(.bool false),(.bool false),(.bool false),(.bool false),(.bool false),(.bool false),(.bool false),(.bool false),(.bool false),(.bool false),(.bool false),(.bool false),(.bool false),(.bool false),(.bool false),(.bool false),(.bool false),(.bool false),(.bool false),(.bool false),(.bool false),(.bool false),(.bool false),(.bool false),(.bool false),(.bool false),(.bool false),(.bool false),(.bool false),(.bool false),(.bool false),(.bool false),(.bool false),(.bool false),(.bool false),(.bool false),(.bool false),(.bool false),(.bool false),(.bool false),(.bool false),(.bool false),(.bool false),(.bool false),(.bool false),(.bool false),(.bool false),(.bool false),(.bool false),(.bool false),(.bool false),(.bool false),(.bool false),(.bool false),(.bool false),(.bool false),(.bool false),(.bool false),(.bool false),(.bool false),(.bool false),(.bool false),(.bool false),(.bool false),(.bool false),(.bool false),(.bool false),(.bool false),(.bool false),(.bool false),(.bool false),(.bool false),(.bool false),(.bool false),(.bool false),(.bool false),(.bool false),(.bool false),(.bool false),(.bool false),(.bool false),(.bool false),(.bool false),(.bool false),(.bool false),(.bool false),(.bool false),(.bool false),(.bool false),(.bool false),(.bool false),(.bool false),(.bool false),(.bool false),(.bool false),(.bool false),(.bool false),(.bool false),(.bool false),(.bool false),(.bool false),(.bool false),(.bool false),(.bool false),(.bool false),(.bool false),(.bool false),(.bool false),(.bool false),(.bool false),(.bool false),(.bool false),(.bool false),(.bool false),(.bool false),(.bool false),(.bool false),(.bool false),(.bool false),(.bool false),(.bool false),(.bool false),(.bool false),(.bool false),(.bool false),(.bool false),(.bool false),(.bool false),(.bool false),(.bool false),(.bool false),(.bool false),(.bool false),(.bool false),(.bool false),(.bool false),(.bool false),(.bool false),(.bool false),(.bool false),(.bool false),(.bool false),(.bool false),(.bool false),(.bool false),(.bool false),(.bool false),(.bool false),(.bool false),(.bool false),(.bool false),(.bool false),(.bool false),(.bool false),(.bool false),(.bool false),(.bool false),(.bool false),(.bool false),(.bool false),(.bool false),(.bool false),(.bool false),(.bool false),(.bool false),(.bool false),(.bool false),(.bool false),(.bool false),(.bool false),(.bool false),(.bool false),(.bool false),(.bool false),(.bool false),(.bool false),(.bool false),(.bool false),(.bool false),(.bool false),(.bool false),(.bool false),(.bool false),(.bool false),(.bool false),(.bool false),(.bool false),(.bool false),(.bool false),(.bool false),(.bool false),(.bool false),(.bool false),(.bool false),(.bool false),(.bool false),(.bool false),(.bool false),(.bool false),(.bool false),(.bool false),(.bool false),(.bool false),(.bool false),(.bool false),(.bool false),(.bool false),(.bool false),(.bool false),(.bool false),(.bool false),(.bool false),(.bool false),(.bool false),(.bool false),(.bool false),(.bool false),(.bool false),(.bool false),(.bool false),(.bool false),(.bool false),(.bool false),(.bool false),(.bool false),(.bool false),(.bool false),(.bool false),(.bool false),(.bool false),(.bool false),(.bool false),(.bool false)],.store 256 (.t 5) (.t 29),.m 6 30] <|
 .n [.m 31 6] <|
 .cond (.t 31)
  (.n [.m 32 0,.c 33 242 [.t 32,.t 5],.m 4 33] <|
  .ret)
  (.skip)) <|
 .n [.m 34 0,.m 35 1,.c 36 244 [.t 34,.t 35],.m 4 36] <|
 .ret
def e280:C :=
 .n [.mov (some 4) (.s [])] <|
 .seq (.seq (.ops false [⟨none,[.m 7 0,.bin (some 8) .eql (.t 7) (.s []),.m 9 8]⟩,
  ⟨some (9,false),[.m 10 1,.bin (some 11) .eql (.t 10) (.s [])]⟩,
  ⟨none,[.pt 12 9 11]⟩]) <|
 .cond (.t 12)
  (.n [.m 13 0,.m 4 13] <|
  .ret)
  (.skip)) <|
 .seq (.seq (.ops false [⟨none,[.m 14 1,.ls 15 14,.bi 16 .eql 15 1,.m 17 16]⟩,
  ⟨some (17,true),[.m 18 1,.idx (some 19) (.t 18) (.i 0),.bin (some 20) .lss (.t 19) (.k (.int .u8 128))]⟩,
  ⟨none,[.pf 21 17 20]⟩]) <|
 .cond (.t 21)
  (.n [.m 22 0,.m 23 1,.idx (some 24) (.t 23) (.i 0),.c 25 240 [.t 22,.t 24],.m 4 25] <|
  .ret)
  (.skip)) <|
 .seq (.n [.m 27 1,.c 28 241 [.t 27],.m 26 28,.x 29 0 26,.x 30 1 26,.alloc 5 292 [(.bool false),(.bool false),(.bool false),(.bool false),(.bool false),(.bool false),(.bool false),(.bool false),(.bool false),(.bool false),(.bool false),(.bool false),(.bool false),(.bool false),(.bool false),(.bool false),(.bool false),(.bool false),(.bool false),(.bool false),(.bool false),(.bool false),(.bool false),(.bool false),(.bool false),(.bool false),(.bool false),(.bool false),(.bool false),(.bool false),(.bool false),(.bool false),(.bool false),(.bool false),(.bool false),(.bool false),(.bool false),(.bool false),(.bool false),(.bool false),(.bool false),(.bool false),(.bool false),(.bool false),(.bool false),(.bool false),(.bool false),(.bool false),(.bool false),(.bool false),(.bool false),(.bool false),(.bool false),(.bool false),(.bool false),(.bool false),(.bool false),(.bool false),(.bool false),(.bool false),(.bool false),(.bool false),(.bool false),(.bool false),(.bool false),(.bool false),(.bool false),(.bool false),(.bool false),(.bool false),(.bool false),(.bool false),(.bool false),(.bool false),(.bool false),(.bool false),(.bool false),(.bool false),(.bool false),(.bool false),(.bool false),(.bool false),(.bool false),(.bool false),(.bool false),(.bool false),(.bool false),(.bool false),(.bool false),(.bool false),(.bool false),(.bool false),(.bool false),(.bool false),(.bool false),(.bool false),(.bool false),(.bool false),(.bool false),(.bool false),(.bool false),(.bool false),(.bool false),(.bool false),(.bool false),(.bool false),(.bool false),(.bool false),(.bool false),(.bool false),(.bool false),(.bool false),(.bool false),(.bool false),(.bool false),(.bool false),(.bool false),(.bool false),(.bool false),(.bool false),(.bool false),(.bool false),(.bool false),(.bool false),(.bool false),(.bool false),(.bool false),(.bool false),(.bool false),(.bool false),(.bool false),(.bool false),(.bool false),(.bool false),(.bool false),(.bool false),(.bool false),(.bool false),(.bool false),(.bool false),(.bool false),(.bool false),(.bool false),(.bool false),(.bool false),(.bool false),(.bool false),(.bool false),(.bool false),(.bool false),(.bool false),(.bool false),(.bool false),(.bool false),(.bool false),(.bool false),(.bool false),(.bool false),(.bool false),(.bool false),(.bool false),(.bool false),(.bool false),(.bool false),(.bool false),(.bool false),(.bool false),(.bool false),(.bool false),(.bool false),(.bool false),(.bool false),(.bool false),(.bool false),(.bool false),(.bool false),(.bool false),(.bool false),(.bool false),(.bool false),(.bool false),(.bool false),(.bool false),(.bool false),(.bool false),(.bool false),(.bool false),(.bool false),(.bool false),(.bool false),(.bool false),(.bool false),(.bool false),(.bool false),(.bool false),(.bool false),(.bool false),(.bool false),(.bool false),(.bool false),(.bool false),(.bool false),(.bool false),(.bool false),(.bool false),(.bool false),(.bool false),(.bool false),(.bool false),(.bool false),(.bool false),(.bool false),(.bool false),(.bool false),(.bool false),(.bool false),(.bool false),(.bool false),(.bool false),(.bool false),(.bool false),(.bool false),(.bool false),(.bool false),(.bool false),(.bool false),(.bool false),(.bool false),(.bool false),(.bool false),(.bool false),(.bool false),(.bool false),(.bool false),(.bool false),(.bool false),(.bool false),(.bool false),(.bool false),(.bool false),(.bool false),(.bool false),(.bool false),(.bool false),(.bool false),(.bool false),(.bool false),(.bool false),(.bool false),(.bool false),(.bool false),(.bool false),(.bool false),(.bool false),(.bool false),(.bool false)],.store 256 (.t 5) (.t 29),.m 6 30] <|
 .n [.m 31 6] <|
 .cond (.t 31)
  (.n [.m 32 0,.c 33 243 [.t 32,.t 5],.m 4 33] <|
  .ret)
  (.skip)) <|
 .n [.m 34 0,.m 35 1,.c 36 245 [.t 34,.t 35],.m 4 36] <|
 .ret
def tabL:List (Nat×Ent):=[(8,⟨56,[(0,none)],e8,false⟩),
 (11,⟨15,[(4,none)],e11,false⟩),
 (13,⟨37,[(6,none)],e13,false⟩),
 (16,⟨46,[(2,none)],e16,false⟩),
 (21,⟨43,[(4,none)],e21,false⟩),
 (22,⟨83,[(4,(some (8,true))),(5,none)],e22,false⟩),
 (23,⟨100,[(10,none),(11,none)],e23,false⟩),
 (28,⟨2,[(0,(some (2,true)))],e28,false⟩),
 (30,⟨29,[(2,(some (3,true)))],e30,false⟩),
 (33,⟨15,[(0,(some (8,true)))],e33,false⟩),
 (34,⟨15,[(2,(some (8,true)))],e34,false⟩),
 (35,⟨7,[(2,none)],e35,false⟩),
 (36,⟨53,[(4,none)],e36,false⟩),
 (39,⟨23,[(4,(some (3,true))),(5,none)],e39,false⟩),
 (40,⟨13,[(4,(some (4,true)))],e40,false⟩),
 (41,⟨24,[(6,none)],e41,false⟩),
 (42,⟨19,[(4,(some (3,true))),(5,none)],e42,false⟩),
 (46,⟨45,[(2,(some (3,true))),(3,none),(4,none)],e46,false⟩),
 (47,⟨131,[(2,none)],e47,false⟩),
 (48,⟨34,[(2,none)],e48,false⟩),
 (49,⟨18,[(4,none)],e49,false⟩),
 (51,⟨54,[(2,none)],e51,false⟩),
 (52,⟨44,[(4,none)],e52,false⟩),
 (53,⟨44,[(6,none)],e53,false⟩),
 (54,⟨31,[(2,none)],e54,false⟩),
 (55,⟨45,[(2,none)],e55,false⟩),
 (56,⟨84,[(6,(some (8,true))),(7,none)],e56,false⟩),
 (57,⟨43,[(2,none)],e57,false⟩),
 (58,⟨80,[(6,(some (8,true))),(7,none)],e58,false⟩),
 (59,⟨83,[(2,none)],e59,false⟩),
 (60,⟨9,[(2,none)],e60,false⟩),
 (61,⟨18,[(4,none),(5,none)],e61,false⟩),
 (62,⟨19,[(2,none)],e62,false⟩),
 (63,⟨18,[(8,none)],e63,false⟩),
 (65,⟨8,[(2,none)],e65,false⟩),
 (71,⟨35,[(2,(some (3,true))),(3,none),(4,none)],e71,false⟩),
 (72,⟨16,[(2,(some (6,true)))],e72,false⟩),
 (80,⟨8,[(2,(some (3,true)))],e80,false⟩),
 (81,⟨42,[(4,none)],e81,false⟩),
 (82,⟨65,[(8,none)],e82,false⟩),
 (83,⟨20,[(4,none)],e83,false⟩),
 (84,⟨16,[(2,(some (6,true)))],e84,false⟩),
 (85,⟨32,[(2,none)],e85,false⟩),
 (86,⟨122,[(4,(some (3,true))),(5,none)],e86,false⟩),
 (87,⟨102,[(2,none)],e87,false⟩),
 (88,⟨28,[(6,none)],e88,false⟩),
 (89,⟨37,[(2,none)],e89,false⟩),
 (90,⟨40,[(2,none),(3,none)],e90,false⟩),
 (91,⟨31,[(2,none)],e91,false⟩),
 (92,⟨104,[(2,none)],e92,false⟩),
 (93,⟨91,[(2,none)],e93,false⟩),
 (94,⟨98,[(2,none)],e94,false⟩),
 (95,⟨107,[(2,none)],e95,false⟩),
 (96,⟨81,[(2,none)],e96,false⟩),
 (97,⟨72,[(6,(some (8,true))),(7,none)],e97,false⟩),
 (100,⟨79,[(6,(some (8,true))),(7,none)],e100,false⟩),
 (105,⟨2,[(0,(some (2,true)))],e105,false⟩),
 (106,⟨40,[(2,none)],e106,false⟩),
 (108,⟨38,[(2,none),(3,none),(4,none)],e108,false⟩),
 (109,⟨54,[(2,none)],e109,false⟩),
 (110,⟨2,[(0,(some (6,true)))],e110,false⟩),
 (111,⟨42,[(10,none)],e111,false⟩),
 (116,⟨50,[(4,none)],e116,false⟩),
 (117,⟨68,[(2,none)],e117,false⟩),
 (121,⟨9,[(4,none)],e121,false⟩),
 (122,⟨9,[(4,none)],e122,false⟩),
 (123,⟨28,[(5,none)],e123,true⟩),
 (124,⟨11,[],e124,false⟩),
 (125,⟨34,[(2,none)],e125,false⟩),
 (126,⟨28,[(4,none)],e126,false⟩),
 (127,⟨42,[(2,none)],e127,false⟩),
 (128,⟨19,[(2,none)],e128,false⟩),
 (129,⟨30,[(2,(some (3,true))),(3,none)],e129,false⟩),
 (130,⟨30,[(4,none)],e130,false⟩),
 (131,⟨34,[(2,(some (2,true))),(3,none),(4,none)],e131,false⟩),
 (132,⟨58,[(4,none)],e132,false⟩),
 (133,⟨21,[(4,none)],e133,false⟩),
 (134,⟨34,[(2,none)],e134,false⟩),
 (135,⟨20,[(2,none)],e135,false⟩),
 (136,⟨26,[(4,none)],e136,false⟩),
 (137,⟨17,[(2,none)],e137,false⟩),
 (138,⟨80,[(4,none)],e138,false⟩),
 (139,⟨29,[(4,none)],e139,false⟩),
 (140,⟨9,[(2,none)],e140,false⟩),
 (142,⟨9,[(2,none)],e142,false⟩),
 (144,⟨40,[(4,none)],e144,false⟩),
 (145,⟨14,[(4,none)],e145,false⟩),
 (146,⟨28,[(4,none)],e146,false⟩),
 (148,⟨7,[(2,none)],e148,false⟩),
 (152,⟨29,[(2,none)],e152,false⟩),
 (159,⟨19,[(2,none),(3,none)],e159,false⟩),
 (160,⟨28,[(4,none)],e160,false⟩),
 (161,⟨67,[(6,none)],e161,false⟩),
 (162,⟨55,[(6,none)],e162,false⟩),
 (163,⟨57,[(4,none)],e163,false⟩),
 (164,⟨52,[(4,none)],e164,false⟩),
 (165,⟨33,[(4,none)],e165,false⟩),
 (174,⟨19,[(4,none)],e174,false⟩),
 (175,⟨19,[(4,none)],e175,false⟩),
 (176,⟨134,[],e176,false⟩),
 (177,⟨8,[(2,none)],e177,false⟩),
 (178,⟨31,[(2,none)],e178,false⟩),
 (179,⟨28,[],e179,false⟩),
 (180,⟨9,[(2,none)],e180,false⟩),
 (181,⟨107,[(2,(some (2,true))),(3,none)],e181,false⟩),
 (182,⟨20,[(2,none)],e182,false⟩),
 (183,⟨9,[(2,none)],e183,false⟩),
 (184,⟨12,[(2,none)],e184,false⟩),
 (185,⟨18,[(2,none)],e185,false⟩),
 (197,⟨2,[(0,none)],e197,false⟩),
 (198,⟨2,[(0,none)],e198,false⟩),
 (199,⟨61,[(2,(some (2,true))),(3,none)],e199,false⟩),
 (200,⟨9,[(2,none)],e200,false⟩),
 (201,⟨9,[(4,none)],e201,false⟩),
 (202,⟨9,[(3,none)],e202,true⟩),
 (203,⟨11,[(4,none),(5,none)],e203,false⟩),
 (204,⟨13,[(4,none)],e204,false⟩),
 (217,⟨49,[],e217,false⟩),
 (223,⟨17,[(4,none)],e223,false⟩),
 (227,⟨25,[(2,none)],e227,false⟩),
 (228,⟨53,[(2,none)],e228,false⟩),
 (229,⟨19,[(4,none)],e229,false⟩),
 (230,⟨28,[(2,none)],e230,false⟩),
 (239,⟨17,[(4,none)],e239,false⟩),
 (240,⟨23,[(4,none)],e240,false⟩),
 (249,⟨41,[(2,none)],e249,false⟩),
 (251,⟨8,[(4,none)],e251,false⟩),
 (252,⟨8,[(4,none)],e252,false⟩),
 (253,⟨38,[(2,none)],e253,false⟩),
 (254,⟨19,[(4,none)],e254,false⟩),
 (255,⟨15,[(4,none),(5,none)],e255,false⟩),
 (256,⟨8,[(3,none)],e256,true⟩),
 (267,⟨6,[(2,none)],e267,false⟩),
 (277,⟨18,[(4,none)],e277,false⟩),
 (278,⟨13,[(4,none)],e278,false⟩),
 (279,⟨37,[(4,none)],e279,false⟩),
 (280,⟨37,[(4,none)],e280,false⟩)]
end Go.Ab
