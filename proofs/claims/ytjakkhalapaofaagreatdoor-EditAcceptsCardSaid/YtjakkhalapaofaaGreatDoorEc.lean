/- Lowered code for the evaluator, by program. No condition. -/
import Derived.Test.YtjakkhalapaofaaGreatDoorAbY2
set_option linter.unusedVariables false
namespace Go.Ab
def e5:C :=
 .seq (.ops false [⟨none,[.mov (some 6) (.k (.bool false))]⟩]) <|
 .seq (.ops false [⟨none,[.build (some 23) [(.str []),(.str []),(.str [])] [(0,1,(.k (.str []))),(1,1,(.k (.str [98,111,98]))),(2,1,(.k (.str [99,121])))],.mov (some 24) (.t 2),.call (some 25) true 14 [(.t 24),(.k (.int .i64 3))],.idxA (some 26) 3 1 false (.t 23) (.t 25),.mov (some 7) (.t 26)]⟩]) <|
 .seq (.ops false [⟨none,[.call (some 27) true 15 [(.k (.str [97,108,108,111,119,32,114,101,97,100,32,97,108,108,32,60,97,108,108,62,10,97,108,108,111,119,32,101,100,105,116,32,97,108,108,32,60,97,108,108,62,10,103,114,111,117,112,32,115,116,97,102,102,32,97,110,110,10,97,108,108,111,119,32,114,101,118,105,101,119,32,115,116,97,102,102,32,60,97,108,108,62,10,103,117,97,114,100,32,115,116,97,102,102,32,65]))],.alloc 8 29 [(.int .i64 0),(.int .i64 0),.nils,.nils,.nils,(.int .i64 0),.nils,.nils],.store 8 (.t 8) (.t 27)]⟩]) <|
 .seq (.ops false [⟨none,[.build (some 28) [(.int .i64 0),(.str [])] [(1,1,(.k (.str [65])))],.alloc 9 41 [(.int .i64 0),(.str [])],.store 2 (.t 9) (.t 28)]⟩]) <|
 .seq (.ops true [⟨none,[.load (some 30) false 8 true (.t 8),.load (some 31) false 2 true (.t 9),.mov (some 32) (.t 0),.call (some 33) true 6 [(.t 32)],.build (some 34) [(.int .i64 0),(.str []),(.str []),(.int .i64 0),(.str []),(.int .i64 0),(.str []),(.str []),(.int .i64 0),.nils] [(0,1,(.k (.int .i64 1))),(3,2,(.t 31)),(7,1,(.t 33))],.mkl (some 35) 10 [(.t 34)],.call (some 36) true 16 [(.t 30),(.t 35)],.mov (some 29) (.t 36),.ext (some 37) 0 (.t 29),.ext (some 38) 1 (.t 29),.store 8 (.t 8) (.t 37)]⟩]) <|
 .seq (.ops true [⟨none,[.load (some 40) false 8 true (.t 8),.mov (some 41) (.t 7),.load (some 42) false 2 true (.t 9),.mov (some 43) (.t 1),.call (some 44) true 6 [(.t 43)],.call (some 45) true 8 [(.t 40),(.t 41),(.t 42),(.k (.int .i64 1)),(.t 44),(.k (.str [119,104,121]))],.mov (some 39) (.t 45),.ext (some 46) 0 (.t 39),.ext (some 47) 1 (.t 39),.alloc 10 36 [(.int .i64 0),.nils,(.str []),.nils],.store 4 (.t 10) (.t 46),.mov (some 11) (.t 47)]⟩]) <|
 .seq (.seq (.ops false [⟨none,[.mov (some 48) (.t 0),.call (some 49) true 6 [(.t 48)],.mov (some 50) (.t 1),.call (some 51) true 6 [(.t 50)],.bin (some 52) .eql (.t 49) (.t 51)]⟩]) <|
 .cond (.t 52)
  (.seq (.ops false [⟨none,[.call (some 53) true 9 [],.mov (some 54) (.t 53)]⟩,
   ⟨some (54,true),[.mov (some 55) (.t 11),.bin (some 56) .eql (.t 55) (.k (.int .i64 0))]⟩,
   ⟨none,[.pick (some 57) (.t 54) (.t 56) (.k (.bool false)),.mov (some 58) (.t 57)]⟩,
   ⟨some (58,true),[.fadr (some 59) 0 (.t 10),.load (some 60) false 1 false (.t 59),.bin (some 61) .eql (.t 60) (.k (.int .i64 1))]⟩,
   ⟨none,[.pick (some 62) (.t 58) (.t 61) (.k (.bool false)),.mov (some 6) (.t 62)]⟩]) <|
  .ret)
  (.skip)) <|
 .seq (.ops false [⟨none,[.load (some 64) false 8 true (.t 8),.fadr (some 65) 1 (.t 10),.load (some 66) false 1 false (.t 65),.call (some 67) true 16 [(.t 64),(.t 66)],.mov (some 63) (.t 67),.ext (some 68) 0 (.t 63),.ext (some 69) 1 (.t 63),.store 8 (.t 8) (.t 68),.mov (some 12) (.t 69)]⟩]) <|
 .seq (.ops false [⟨none,[.load (some 71) false 8 true (.t 8),.call (some 72) true 17 [(.t 71),(.k (.str [99,121])),(.k (.int .i64 1))],.mov (some 70) (.t 72),.ext (some 73) 0 (.t 70),.ext (some 74) 1 (.t 70),.alloc 13 36 [(.int .i64 0),.nils,(.str []),.nils],.store 4 (.t 13) (.t 73),.mov (some 14) (.t 74)]⟩]) <|
 .seq (.ops false [⟨none,[.load (some 76) false 8 true (.t 8),.call (some 77) true 17 [(.t 76),(.k (.str [97,110,110])),(.k (.int .i64 1))],.mov (some 75) (.t 77),.ext (some 78) 0 (.t 75),.ext (some 79) 1 (.t 75),.alloc 15 36 [(.int .i64 0),.nils,(.str []),.nils],.store 4 (.t 15) (.t 78),.mov (some 16) (.t 79)]⟩]) <|
 .seq (.ops false [⟨none,[.load (some 81) false 8 true (.t 8),.fadr (some 82) 1 (.t 15),.load (some 83) false 1 false (.t 82),.call (some 84) true 16 [(.t 81),(.t 83)],.mov (some 80) (.t 84),.ext (some 85) 0 (.t 80),.ext (some 86) 1 (.t 80),.alloc 17 29 [(.int .i64 0),(.int .i64 0),.nils,.nils,.nils,(.int .i64 0),.nils,.nils],.store 8 (.t 17) (.t 85),.mov (some 18) (.t 86)]⟩]) <|
 .seq (.ops false [⟨none,[.load (some 88) false 8 true (.t 17),.load (some 89) false 2 true (.t 9),.call (some 90) true 18 [(.t 88),(.t 89)],.mov (some 87) (.t 90),.ext (some 91) 0 (.t 87),.ext (some 92) 1 (.t 87),.alloc 19 62 [(.int .i64 0),(.str []),.nils],.store 3 (.t 19) (.t 91),.mov (some 20) (.t 92)]⟩]) <|
 .seq (.ops false [⟨none,[.load (some 93) false 3 true (.t 19),.call (some 94) true 19 [(.t 93)],.alloc 21 66 [(.int .i64 0),(.str []),(.str []),(.str []),(.int .i64 0),(.int .i64 0)],.store 6 (.t 21) (.t 94)]⟩]) <|
 .seq (.ops false [⟨none,[.mov (some 22) (.k (.int .i64 4))]⟩]) <|
 .seq (.seq (.ops false [⟨none,[.mov (some 95) (.t 7),.bin (some 96) .eql (.t 95) (.k (.str [99,121]))]⟩]) <|
 .cond (.t 96)
  (.ops false [⟨none,[.mov (some 22) (.k (.int .i64 10))]⟩])
  (.skip)) <|
 .seq (.ops true [⟨none,[.call (some 97) true 9 [],.mov (some 98) (.t 97)]⟩,
  ⟨some (98,true),[.mov (some 99) (.t 11),.bin (some 100) .eql (.t 99) (.k (.int .i64 0))]⟩,
  ⟨none,[.pick (some 101) (.t 98) (.t 100) (.k (.bool false)),.mov (some 102) (.t 101)]⟩,
  ⟨some (102,true),[.mov (some 103) (.t 12),.bin (some 104) .eql (.t 103) (.k (.int .i64 0))]⟩,
  ⟨none,[.pick (some 105) (.t 102) (.t 104) (.k (.bool false)),.mov (some 106) (.t 105)]⟩,
  ⟨some (106,true),[.mov (some 107) (.t 14),.mov (some 108) (.t 22),.bin (some 109) .eql (.t 107) (.t 108)]⟩,
  ⟨none,[.pick (some 110) (.t 106) (.t 109) (.k (.bool false)),.mov (some 111) (.t 110)]⟩,
  ⟨some (111,true),[.mov (some 112) (.t 16),.bin (some 113) .eql (.t 112) (.k (.int .i64 0))]⟩,
  ⟨none,[.pick (some 114) (.t 111) (.t 113) (.k (.bool false)),.mov (some 115) (.t 114)]⟩,
  ⟨some (115,true),[.mov (some 116) (.t 18),.bin (some 117) .eql (.t 116) (.k (.int .i64 0))]⟩,
  ⟨none,[.pick (some 118) (.t 115) (.t 117) (.k (.bool false)),.mov (some 119) (.t 118)]⟩,
  ⟨some (119,true),[.fadr (some 120) 0 (.t 15),.load (some 121) false 1 false (.t 120),.bin (some 122) .eql (.t 121) (.k (.int .i64 2))]⟩,
  ⟨none,[.pick (some 123) (.t 119) (.t 122) (.k (.bool false)),.mov (some 124) (.t 123)]⟩,
  ⟨some (124,true),[.fadr (some 125) 3 (.t 21),.load (some 126) false 1 false (.t 125),.mov (some 127) (.t 1),.call (some 128) true 6 [(.t 127)],.bin (some 129) .eql (.t 126) (.t 128)]⟩,
  ⟨none,[.pick (some 130) (.t 124) (.t 129) (.k (.bool false)),.mov (some 131) (.t 130)]⟩,
  ⟨some (131,true),[.fadr (some 132) 1 (.t 21),.load (some 133) false 1 false (.t 132),.mov (some 134) (.t 7),.bin (some 135) .eql (.t 133) (.t 134)]⟩,
  ⟨none,[.pick (some 136) (.t 131) (.t 135) (.k (.bool false)),.mov (some 137) (.t 136)]⟩,
  ⟨some (137,true),[.fadr (some 138) 2 (.t 21),.load (some 139) false 1 false (.t 138),.bin (some 140) .eql (.t 139) (.k (.str [119,104,121]))]⟩,
  ⟨none,[.pick (some 141) (.t 137) (.t 140) (.k (.bool false)),.mov (some 142) (.t 141)]⟩,
  ⟨some (142,true),[.fadr (some 143) 0 (.t 21),.load (some 144) false 1 false (.t 143),.bin (some 145) .eql (.t 144) (.k (.int .i64 2))]⟩,
  ⟨none,[.pick (some 146) (.t 142) (.t 145) (.k (.bool false)),.mov (some 147) (.t 146)]⟩,
  ⟨some (147,true),[.fadr (some 148) 4 (.t 17),.load (some 149) false 1 false (.t 148),.len (some 150) false (.t 149),.bin (some 151) .eql (.t 150) (.k (.int .i64 0))]⟩,
  ⟨none,[.pick (some 152) (.t 147) (.t 151) (.k (.bool false)),.mov (some 6) (.t 152)]⟩]) <|
 .ret
def e6:C :=
 .seq (.ops false [⟨none,[.mov (some 2) (.k (.str []))]⟩]) <|
 .seq (.ops false [⟨none,[.mov (some 6) (.t 0),.ecall (some 7) 22 20 [(.t 6)],.mov (some 3) (.t 7)]⟩]) <|
 .seq (.ops false [⟨none,[.mov (some 4) (.k (.str []))]⟩]) <|
 .seq (.seq (.ops false [⟨none,[.mov (some 8) (.t 3),.ecall (some 9) 22 21 [(.t 8),(.k (.int .i64 3))],.bin (some 10) .add (.k (.int .i64 1)) (.t 9),.mov (some 5) (.t 10)]⟩]) <|
 .block 0 <|
  .loop <|
   .seq (.seq (.ops false [⟨none,[.mov (some 11) (.t 5),.bin (some 12) .gtr (.t 11) (.k (.int .i64 0))]⟩]) <|
   .cond (.t 12)
    (.skip)
    (.exit 0)) <|
   .seq (.block 1 <|
    .ops false [⟨none,[.mov (some 15) (.t 4),.build (some 16) [(.str []),(.str []),(.str []),(.str []),(.str [])] [(0,1,(.k (.str [111,110,101,10]))),(1,1,(.k (.str [116,119,111,32,119,111,114,100,115,10]))),(2,1,(.k (.str [116,104,114,101,101,10]))),(3,1,(.k (.str [10]))),(4,1,(.k (.str [102,111,117,114,32,52,10])))],.mov (some 17) (.t 3),.ecall (some 18) 22 21 [(.t 17),(.k (.int .i64 5))],.idxA (some 19) 5 1 false (.t 16) (.t 18),.bin (some 20) .add (.t 15) (.t 19),.mov (some 4) (.t 20)]⟩]) <|
   .ops false [⟨none,[.mov (some 13) (.t 5),.bin (some 14) .sub (.t 13) (.k (.int .i64 1)),.mov (some 5) (.t 14)]⟩]) <|
 .seq (.ops false [⟨none,[.mov (some 21) (.t 4),.mov (some 2) (.t 21)]⟩]) <|
 .ret
def e7:C :=
 .seq (.ops false [⟨none,[.alloc 2 29 [(.int .i64 0),(.int .i64 0),.nils,.nils,.nils,(.int .i64 0),.nils,.nils]]⟩]) <|
 .seq (.ops false [⟨none,[.mkl (some 5) 1 [(.k (.int .i64 0))],.ecall (some 6) 28 20 [(.t 5)],.ecall (some 7) 28 22 [(.t 6)],.call (some 8) true 15 [(.t 7)],.alloc 3 29 [(.int .i64 0),(.int .i64 0),.nils,.nils,.nils,(.int .i64 0),.nils,.nils],.store 8 (.t 3) (.t 8)]⟩]) <|
 .seq (.seq (.ops false [⟨none,[.mov (some 4) (.k (.int .i64 0))]⟩]) <|
 .block 0 <|
  .loop <|
   .seq (.seq (.ops false [⟨none,[.mov (some 9) (.t 4),.mov (some 10) (.t 0),.len (some 11) false (.t 10),.bin (some 12) .lss (.t 9) (.t 11)]⟩]) <|
   .cond (.t 12)
    (.skip)
    (.exit 0)) <|
   .seq (.block 1 <|
    .ops true [⟨none,[.load (some 16) false 8 true (.t 3),.build (some 17) [(.int .i64 0),(.str [])] [(1,1,(.k (.str [65])))],.mov (some 18) (.t 0),.mov (some 19) (.t 4),.iadr (some 20) 1 (.t 18) (.t 19),.load (some 21) false 1 false (.t 20),.build (some 22) [(.int .i64 0),(.str []),(.str []),(.int .i64 0),(.str []),(.int .i64 0),(.str []),(.str []),(.int .i64 0),.nils] [(0,1,(.k (.int .i64 1))),(3,2,(.t 17)),(7,1,(.t 21))],.mkl (some 23) 10 [(.t 22)],.call (some 24) true 16 [(.t 16),(.t 23)],.mov (some 15) (.t 24),.ext (some 25) 0 (.t 15),.ext (some 26) 1 (.t 15),.store 8 (.t 3) (.t 25)]⟩]) <|
   .ops false [⟨none,[.mov (some 13) (.t 4),.bin (some 14) .add (.t 13) (.k (.int .i64 1)),.mov (some 4) (.t 14)]⟩]) <|
 .seq (.ops false [⟨none,[.load (some 27) false 8 true (.t 3),.store 8 (.t 2) (.t 27)]⟩]) <|
 .ret
def e8:C :=
 .seq (.ops false [⟨none,[.box 6 29 (.t 0),.box 8 41 (.t 2),.alloc 12 36 [(.int .i64 0),.nils,(.str []),.nils],.mov (some 13) (.k (.int .i64 0))]⟩]) <|
 .seq (.ops false [⟨none,[.load (some 23) false 8 true (.t 6),.mov (some 24) (.t 1),.call (some 25) true 23 [(.t 23),(.t 24)],.alloc 14 80 [.nils,.nils,.nils,.nils],.store 4 (.t 14) (.t 25)]⟩]) <|
 .seq (.block 0 <|
  .seq (.ops false [⟨none,[.load (some 27) false 2 true (.t 8),.call (some 28) true 24 [(.t 27)],.un (some 29) .not (.t 28),.mov (some 30) (.t 29)]⟩,
   ⟨some (30,false),[.mov (some 31) (.t 1),.call (some 32) true 25 [(.t 31)],.un (some 33) .not (.t 32)]⟩,
   ⟨none,[.pick (some 34) (.t 30) (.k (.bool true)) (.t 33),.mov (some 26) (.t 34)]⟩]) <|
  .cond (.t 26)
   (.seq (.ops false [⟨none,[.build (some 35) [(.int .i64 0),.nils,(.str []),.nils] [],.store 4 (.t 12) (.t 35),.mov (some 13) (.k (.int .i64 2))]⟩]) <|
   .ret)
   (.seq (.ops false [⟨none,[.mov (some 37) (.t 4),.len (some 38) true (.t 37),.bin (some 39) .gtr (.t 38) (.k (.int .i64 8192)),.mov (some 40) (.t 39)]⟩,
    ⟨some (40,false),[.mov (some 41) (.t 5),.len (some 42) true (.t 41),.bin (some 43) .gtr (.t 42) (.k (.int .i64 200))]⟩,
    ⟨none,[.pick (some 44) (.t 40) (.k (.bool true)) (.t 43),.mov (some 36) (.t 44)]⟩]) <|
   .cond (.t 36)
    (.seq (.ops false [⟨none,[.build (some 45) [(.int .i64 0),.nils,(.str []),.nils] [],.store 4 (.t 12) (.t 45),.mov (some 13) (.k (.int .i64 3))]⟩]) <|
    .ret)
    (.seq (.ops false [⟨none,[.load (some 47) false 4 true (.t 14),.load (some 48) false 2 true (.t 8),.call (some 49) true 26 [(.t 47),(.k (.int .i64 1)),(.t 48)],.un (some 50) .not (.t 49),.mov (some 51) (.t 50)]⟩,
     ⟨some (51,false),[.load (some 52) false 4 true (.t 14),.load (some 53) false 2 true (.t 8),.call (some 54) true 26 [(.t 52),(.k (.int .i64 2)),(.t 53)],.un (some 55) .not (.t 54)]⟩,
     ⟨none,[.pick (some 56) (.t 51) (.k (.bool true)) (.t 55),.mov (some 46) (.t 56)]⟩]) <|
    .cond (.t 46)
     (.seq (.ops false [⟨none,[.build (some 57) [(.int .i64 0),.nils,(.str []),.nils] [],.store 4 (.t 12) (.t 57),.mov (some 13) (.k (.int .i64 10))]⟩]) <|
     .ret)
     (.skip)))) <|
 .seq (.ops false [⟨none,[.load (some 59) false 8 true (.t 6),.load (some 60) false 2 true (.t 8),.mov (some 61) (.t 3),.mov (some 62) (.t 4),.call (some 63) true 27 [(.t 59),(.t 60),(.t 61),(.t 62)],.mov (some 58) (.t 63),.ext (some 64) 0 (.t 58),.ext (some 65) 1 (.t 58),.alloc 15 86 [(.str []),(.str []),.nils],.store 3 (.t 15) (.t 64),.mov (some 16) (.t 65)]⟩]) <|
 .seq (.seq (.ops false [⟨none,[.mov (some 66) (.t 16),.bin (some 67) .neq (.t 66) (.k (.int .i64 0))]⟩]) <|
 .cond (.t 67)
  (.seq (.ops false [⟨none,[.fadr (some 68) 1 (.t 15),.load (some 69) false 2 true (.t 68),.build (some 70) [(.int .i64 0),.nils,(.str []),.nils] [(2,2,(.t 69))],.mov (some 71) (.t 16),.store 4 (.t 12) (.t 70),.mov (some 13) (.t 71)]⟩]) <|
  .ret)
  (.skip)) <|
 .seq (.ops false [⟨none,[.load (some 73) false 8 true (.t 6),.load (some 74) false 2 true (.t 8),.ecall (some 75) 124 28 [(.t 73),(.t 74)],.mov (some 72) (.t 75),.ext (some 76) 0 (.t 72),.ext (some 77) 1 (.t 72),.alloc 17 62 [(.int .i64 0),(.str []),.nils],.store 3 (.t 17) (.t 76),.mov (some 18) (.t 77)]⟩]) <|
 .seq (.ops false [⟨none,[.load (some 78) false 3 true (.t 17),.call (some 79) false 29 [(.t 78)],.alloc 19 66 [(.int .i64 0),(.str []),(.str []),(.str []),(.int .i64 0),(.int .i64 0)],.store 6 (.t 19) (.t 79)]⟩]) <|
 .seq (.ops false [⟨none,[.load (some 80) false 4 true (.t 14),.load (some 81) false 2 true (.t 8),.fadr (some 82) 3 (.t 19),.load (some 83) false 1 false (.t 82),.fadr (some 84) 0 (.t 15),.load (some 85) false 1 false (.t 84),.call (some 86) true 30 [(.t 80),(.t 81),(.t 83),(.t 85)],.mov (some 20) (.t 86)]⟩]) <|
 .seq (.seq (.ops false [⟨none,[.mov (some 87) (.t 20),.bin (some 88) .eql (.t 87) (.k (.int .i64 3))]⟩]) <|
 .cond (.t 88)
  (.seq (.ops false [⟨none,[.build (some 89) [(.int .i64 0),.nils,(.str []),.nils] [],.store 4 (.t 12) (.t 89),.mov (some 13) (.k (.int .i64 10))]⟩]) <|
  .ret)
  (.skip)) <|
 .seq (.ops false [⟨none,[.fadr (some 90) 1 (.t 15),.load (some 91) false 2 true (.t 90),.build (some 92) [(.int .i64 0),.nils,(.str []),.nils] [(2,2,(.t 91))],.alloc 21 36 [(.int .i64 0),.nils,(.str []),.nils],.store 4 (.t 21) (.t 92)]⟩]) <|
 .seq (.ops false [⟨none,[.mov (some 93) (.t 1),.mov (some 94) (.t 5),.load (some 95) false 2 true (.t 8),.fadr (some 96) 0 (.t 15),.load (some 97) false 1 false (.t 96),.build (some 98) [(.int .i64 0),(.str []),(.str []),(.int .i64 0),(.str []),(.int .i64 0),(.str []),(.str []),(.int .i64 0),.nils] [(1,1,(.t 93)),(2,1,(.t 94)),(3,2,(.t 95)),(7,1,(.t 97))],.alloc 22 57 [(.int .i64 0),(.str []),(.str []),(.int .i64 0),(.str []),(.int .i64 0),(.str []),(.str []),(.int .i64 0),.nils],.store 10 (.t 22) (.t 98)]⟩]) <|
 .seq (.block 1 <|
  .seq (.ops false [⟨none,[.mov (some 102) (.t 18),.mov (some 103) (.t 102)]⟩,
   ⟨some (103,true),[.fadr (some 104) 3 (.t 19),.load (some 105) false 1 false (.t 104),.fadr (some 106) 0 (.t 15),.load (some 107) false 1 false (.t 106),.bin (some 108) .eql (.t 105) (.t 107)]⟩,
   ⟨none,[.pick (some 109) (.t 103) (.t 108) (.k (.bool false)),.mov (some 101) (.t 109)]⟩]) <|
  .cond (.t 101)
   (.seq (.ops false [⟨none,[.fadr (some 110) 0 (.t 21),.store 1 (.t 110) (.k (.int .i64 1))]⟩]) <|
   .seq (.ops false [⟨none,[.load (some 111) false 4 true (.t 21),.store 4 (.t 12) (.t 111),.mov (some 13) (.k (.int .i64 0))]⟩]) <|
   .ret)
   (.seq (.ops false [⟨none,[.mov (some 113) (.t 20),.bin (some 114) .eql (.t 113) (.k (.int .i64 2)),.mov (some 112) (.t 114)]⟩]) <|
   .cond (.t 112)
    (.seq (.ops false [⟨none,[.fadr (some 115) 0 (.t 21),.store 1 (.t 115) (.k (.int .i64 3))]⟩]) <|
    .gh (.frzb 19) <| .ops true [⟨none,[.fadr (some 116) 0 (.t 19),.load (some 117) true 1 false (.t 116),.fadr (some 118) 0 (.t 22),.store 1 (.t 118) (.k (.int .i64 9)),.fadr (some 119) 8 (.t 22),.store 1 (.t 119) (.t 117)]⟩])
    (.seq (.ops false [⟨none,[.fadr (some 99) 0 (.t 21),.store 1 (.t 99) (.k (.int .i64 2))]⟩]) <|
    .ops false [⟨none,[.fadr (some 100) 0 (.t 22),.store 1 (.t 100) (.k (.int .i64 1))]⟩]))) <|
 .seq (.ops false [⟨none,[.load (some 120) false 10 true (.t 22),.mkl (some 121) 10 [(.t 120)],.fadr (some 122) 1 (.t 21),.store 1 (.t 122) (.t 121)]⟩]) <|
 .seq (.ops false [⟨none,[.load (some 123) false 4 true (.t 21),.store 4 (.t 12) (.t 123),.mov (some 13) (.k (.int .i64 0))]⟩]) <|
 .ret
def e9:C :=
 .seq (.ops false [⟨none,[.mov (some 0) (.k (.bool false))]⟩]) <|
 .seq (.ops false [⟨none,[.mkl (some 9) 1 [(.k (.str [120])),(.k (.str [121]))],.call (some 10) true 7 [(.t 9)],.build (some 11) [(.int .i64 0),(.str [])] [(1,1,(.k (.str [65])))],.alloc 1 29 [(.int .i64 0),(.int .i64 0),.nils,.nils,.nils,(.int .i64 0),.nils,.nils],.alloc 2 41 [(.int .i64 0),(.str [])],.store 8 (.t 1) (.t 10),.store 2 (.t 2) (.t 11)]⟩]) <|
 .seq (.ops false [⟨none,[.load (some 13) false 8 true (.t 1),.load (some 14) false 2 true (.t 2),.call (some 15) true 8 [(.t 13),(.k (.str [97,110,110])),(.t 14),(.k (.int .i64 2)),(.k (.str [122])),(.k (.str []))],.mov (some 12) (.t 15),.ext (some 16) 0 (.t 12),.ext (some 17) 1 (.t 12),.alloc 3 36 [(.int .i64 0),.nils,(.str []),.nils],.store 4 (.t 3) (.t 16),.mov (some 4) (.t 17)]⟩]) <|
 .seq (.ops false [⟨none,[.load (some 19) false 8 true (.t 1),.load (some 20) false 2 true (.t 2),.call (some 21) true 8 [(.t 19),(.k (.str [97,110,110])),(.t 20),(.k (.int .i64 3)),(.k (.str [122])),(.k (.str []))],.mov (some 18) (.t 21),.ext (some 22) 0 (.t 18),.ext (some 23) 1 (.t 18),.alloc 5 36 [(.int .i64 0),.nils,(.str []),.nils],.store 4 (.t 5) (.t 22),.mov (some 6) (.t 23)]⟩]) <|
 .seq (.ops false [⟨none,[.load (some 25) false 8 true (.t 1),.load (some 26) false 2 true (.t 2),.call (some 27) true 8 [(.t 25),(.k (.str [97,110,110])),(.t 26),(.k (.int .i64 0)),(.k (.str [122])),(.k (.str []))],.mov (some 24) (.t 27),.ext (some 28) 0 (.t 24),.ext (some 29) 1 (.t 24),.alloc 7 36 [(.int .i64 0),.nils,(.str []),.nils],.store 4 (.t 7) (.t 28),.mov (some 8) (.t 29)]⟩]) <|
 .seq (.ops false [⟨none,[.mov (some 30) (.t 4),.bin (some 31) .eql (.t 30) (.k (.int .i64 0)),.mov (some 32) (.t 31)]⟩,
  ⟨some (32,true),[.fadr (some 33) 0 (.t 3),.load (some 34) false 1 false (.t 33),.bin (some 35) .eql (.t 34) (.k (.int .i64 2))]⟩,
  ⟨none,[.pick (some 36) (.t 32) (.t 35) (.k (.bool false)),.mov (some 37) (.t 36)]⟩,
  ⟨some (37,true),[.fadr (some 38) 1 (.t 3),.load (some 39) false 1 false (.t 38),.len (some 40) false (.t 39),.bin (some 41) .eql (.t 40) (.k (.int .i64 1))]⟩,
  ⟨none,[.pick (some 42) (.t 37) (.t 41) (.k (.bool false)),.mov (some 43) (.t 42)]⟩,
  ⟨some (43,true),[.fadr (some 44) 1 (.t 3),.load (some 45) false 1 false (.t 44),.iadr (some 46) 10 (.t 45) (.k (.int .i64 0)),.fadr (some 47) 7 (.t 46),.load (some 48) false 1 false (.t 47),.bin (some 49) .eql (.t 48) (.k (.str [122]))]⟩,
  ⟨none,[.pick (some 50) (.t 43) (.t 49) (.k (.bool false)),.mov (some 51) (.t 50)]⟩,
  ⟨some (51,true),[.mov (some 52) (.t 6),.bin (some 53) .eql (.t 52) (.k (.int .i64 12))]⟩,
  ⟨none,[.pick (some 54) (.t 51) (.t 53) (.k (.bool false)),.mov (some 55) (.t 54)]⟩,
  ⟨some (55,true),[.mov (some 56) (.t 8),.bin (some 57) .eql (.t 56) (.k (.int .i64 12))]⟩,
  ⟨none,[.pick (some 58) (.t 55) (.t 57) (.k (.bool false)),.mov (some 59) (.t 58)]⟩,
  ⟨some (59,true),[.load (some 60) false 8 true (.t 1),.call (some 61) true 31 [(.t 60)],.field (some 62) 1 1 false (.t 61),.len (some 63) false (.t 62),.bin (some 64) .eql (.t 63) (.k (.int .i64 5))]⟩,
  ⟨none,[.pick (some 65) (.t 59) (.t 64) (.k (.bool false)),.mov (some 0) (.t 65)]⟩]) <|
 .ret
def e14:C :=
 .seq (.ops false [⟨none,[.mov (some 4) (.k (.int .i64 0))]⟩]) <|
 .seq (.ops false [⟨none,[.mov (some 6) (.t 0),.mov (some 7) (.t 1),.bin (some 8) .rem (.t 6) (.t 7),.mov (some 5) (.t 8)]⟩]) <|
 .seq (.seq (.ops false [⟨none,[.mov (some 9) (.t 5),.bin (some 10) .lss (.t 9) (.k (.int .i64 0))]⟩]) <|
 .cond (.t 10)
  (.ops false [⟨none,[.mov (some 11) (.t 5),.mov (some 12) (.t 1),.bin (some 13) .add (.t 11) (.t 12),.mov (some 5) (.t 13)]⟩])
  (.skip)) <|
 .seq (.ops false [⟨none,[.mov (some 14) (.t 5),.mov (some 4) (.t 14)]⟩]) <|
 .ret
def e15:C :=
 .seq (.ops false [⟨none,[.alloc 2 29 [(.int .i64 0),(.int .i64 0),.nils,.nils,.nils,(.int .i64 0),.nils,.nils]]⟩]) <|
 .seq (.ops false [⟨none,[.build (some 6) [(.int .i64 0),(.int .i64 0),.nils,.nils,.nils,(.int .i64 0),.nils,.nils] [],.call (some 7) true 41 [],.mov (some 8) (.t 0),.build (some 9) [(.int .i64 0),(.str []),(.str []),(.int .i64 0),(.str []),(.int .i64 0),(.str []),(.str []),(.int .i64 0),.nils] [(0,1,(.k (.int .i64 1))),(3,2,(.t 7)),(7,1,(.t 8))],.mkl (some 10) 10 [(.t 9)],.call (some 11) true 16 [(.t 6),(.t 10)],.mov (some 5) (.t 11),.ext (some 12) 0 (.t 5),.ext (some 13) 1 (.t 5),.alloc 3 29 [(.int .i64 0),(.int .i64 0),.nils,.nils,.nils,(.int .i64 0),.nils,.nils],.store 8 (.t 3) (.t 12),.mov (some 4) (.t 13)]⟩]) <|
 .seq (.ops false [⟨none,[.load (some 14) false 8 true (.t 3),.store 8 (.t 2) (.t 14)]⟩]) <|
 .ret
def e16:C :=
 .seq (.ops false [⟨none,[.box 2 29 (.t 0),.alloc 4 29 [(.int .i64 0),(.int .i64 0),.nils,.nils,.nils,(.int .i64 0),.nils,.nils],.mov (some 5) (.k (.int .i64 0))]⟩]) <|
 .seq (.seq (.ops false [⟨none,[.load (some 11) false 8 true (.t 2),.call (some 12) true 42 [(.t 11)],.un (some 13) .not (.t 12)]⟩]) <|
 .cond (.t 13)
  (.seq (.ops false [⟨none,[.build (some 14) [(.int .i64 0),(.int .i64 0),.nils,.nils,.nils,(.int .i64 0),.nils,.nils] [],.store 8 (.t 4) (.t 14),.mov (some 5) (.k (.int .i64 11))]⟩]) <|
  .ret)
  (.skip)) <|
 .seq (.seq (.ops false [⟨none,[.mov (some 15) (.t 1),.len (some 16) false (.t 15),.bin (some 17) .lss (.t 16) (.k (.int .i64 1)),.mov (some 18) (.t 17)]⟩,
  ⟨some (18,false),[.mov (some 19) (.t 1),.len (some 20) false (.t 19),.bin (some 21) .gtr (.t 20) (.k (.int .i64 16))]⟩,
  ⟨none,[.pick (some 22) (.t 18) (.k (.bool true)) (.t 21)]⟩]) <|
 .cond (.t 22)
  (.seq (.ops false [⟨none,[.build (some 23) [(.int .i64 0),(.int .i64 0),.nils,.nils,.nils,(.int .i64 0),.nils,.nils] [],.store 8 (.t 4) (.t 23),.mov (some 5) (.k (.int .i64 2))]⟩]) <|
  .ret)
  (.skip)) <|
 .seq (.ops false [⟨none,[.fadr (some 24) 0 (.t 2),.load (some 25) false 1 false (.t 24),.bin (some 26) .add (.t 25) (.k (.int .i64 1)),.mov (some 6) (.t 26)]⟩]) <|
 .seq (.seq (.ops false [⟨none,[.mov (some 7) (.k (.int .i64 0))]⟩]) <|
 .block 0 <|
  .loop <|
   .seq (.seq (.ops false [⟨none,[.mov (some 27) (.t 7),.mov (some 28) (.t 1),.len (some 29) false (.t 28),.bin (some 30) .lss (.t 27) (.t 29)]⟩]) <|
   .cond (.t 30)
    (.skip)
    (.exit 0)) <|
   .seq (.block 1 <|
    .seq (.seq (.ops false [⟨none,[.mov (some 33) (.t 1),.mov (some 34) (.t 7),.iadr (some 35) 10 (.t 33) (.t 34),.load (some 36) false 10 true (.t 35),.call (some 37) true 43 [(.t 36)],.mov (some 8) (.t 37)]⟩]) <|
    .seq (.ops false [⟨none,[.mov (some 38) (.t 8),.bin (some 39) .neq (.t 38) (.k (.int .i64 0))]⟩]) <|
    .cond (.t 39)
     (.seq (.ops false [⟨none,[.build (some 40) [(.int .i64 0),(.int .i64 0),.nils,.nils,.nils,(.int .i64 0),.nils,.nils] [],.mov (some 41) (.t 8),.store 8 (.t 4) (.t 40),.mov (some 5) (.t 41)]⟩]) <|
     .ret)
     (.skip)) <|
    .seq (.ops true [⟨none,[.load (some 43) false 8 true (.t 2),.mov (some 44) (.t 1),.mov (some 45) (.t 7),.iadr (some 46) 10 (.t 44) (.t 45),.load (some 47) false 10 true (.t 46),.mov (some 48) (.t 6),.call (some 49) true 44 [(.t 43),(.t 47),(.t 48)],.mov (some 42) (.t 49),.ext (some 50) 0 (.t 42),.ext (some 51) 1 (.t 42),.alloc 9 29 [(.int .i64 0),(.int .i64 0),.nils,.nils,.nils,(.int .i64 0),.nils,.nils],.store 8 (.t 9) (.t 50),.mov (some 10) (.t 51)]⟩]) <|
    .seq (.seq (.ops false [⟨none,[.mov (some 52) (.t 10),.bin (some 53) .neq (.t 52) (.k (.int .i64 0))]⟩]) <|
    .cond (.t 53)
     (.seq (.ops false [⟨none,[.build (some 54) [(.int .i64 0),(.int .i64 0),.nils,.nils,.nils,(.int .i64 0),.nils,.nils] [],.mov (some 55) (.t 10),.store 8 (.t 4) (.t 54),.mov (some 5) (.t 55)]⟩]) <|
     .ret)
     (.skip)) <|
    .seq (.seq (.ops false [⟨none,[.mov (some 56) (.t 1),.mov (some 57) (.t 7),.iadr (some 58) 10 (.t 56) (.t 57),.load (some 59) false 10 true (.t 58),.call (some 60) true 45 [(.t 59)]]⟩]) <|
    .cond (.t 60)
     (.seq (.ops false [⟨none,[.build (some 61) [(.int .i64 0),(.int .i64 0),.nils,.nils,.nils,(.int .i64 0),.nils,.nils] [],.store 8 (.t 4) (.t 61),.mov (some 5) (.k (.int .i64 7))]⟩]) <|
     .ret)
     (.skip)) <|
    .seq (.ops true [⟨none,[.load (some 63) false 8 true (.t 9),.mov (some 64) (.t 1),.mov (some 65) (.t 7),.iadr (some 66) 10 (.t 64) (.t 65),.fadr (some 67) 1 (.t 66),.load (some 68) false 1 false (.t 67),.mov (some 69) (.t 6),.call (some 70) true 46 [(.t 63),(.t 68),(.t 69)],.mov (some 62) (.t 70),.ext (some 71) 0 (.t 62),.ext (some 72) 1 (.t 62),.store 8 (.t 2) (.t 71),.mov (some 10) (.t 72)]⟩]) <|
    .seq (.ops false [⟨none,[.mov (some 73) (.t 10),.bin (some 74) .neq (.t 73) (.k (.int .i64 0))]⟩]) <|
    .cond (.t 74)
     (.seq (.ops false [⟨none,[.build (some 75) [(.int .i64 0),(.int .i64 0),.nils,.nils,.nils,(.int .i64 0),.nils,.nils] [],.mov (some 76) (.t 10),.store 8 (.t 4) (.t 75),.mov (some 5) (.t 76)]⟩]) <|
     .ret)
     (.skip)) <|
   .ops false [⟨none,[.mov (some 31) (.t 7),.bin (some 32) .add (.t 31) (.k (.int .i64 1)),.mov (some 7) (.t 32)]⟩]) <|
 .seq (.seq (.ops false [⟨none,[.mov (some 77) (.t 6),.bin (some 78) .gtr (.t 77) (.k (.int .i64 1073741824))]⟩]) <|
 .cond (.t 78)
  (.seq (.ops false [⟨none,[.build (some 79) [(.int .i64 0),(.int .i64 0),.nils,.nils,.nils,(.int .i64 0),.nils,.nils] [],.store 8 (.t 4) (.t 79),.mov (some 5) (.k (.int .i64 8))]⟩]) <|
  .ret)
  (.skip)) <|
 .seq (.ops false [⟨none,[.mov (some 80) (.t 6),.fadr (some 81) 0 (.t 2),.store 1 (.t 81) (.t 80)]⟩]) <|
 .seq (.ops false [⟨none,[.load (some 82) false 8 true (.t 2),.store 8 (.t 4) (.t 82),.mov (some 5) (.k (.int .i64 0))]⟩]) <|
 .ret
def e17:C :=
 .seq (.ops false [⟨none,[.box 3 29 (.t 0),.alloc 6 36 [(.int .i64 0),.nils,(.str []),.nils],.mov (some 7) (.k (.int .i64 0))]⟩]) <|
 .seq (.ops false [⟨none,[.load (some 17) false 8 true (.t 3),.mov (some 18) (.t 1),.mov (some 19) (.t 2),.call (some 20) true 47 [(.t 17),(.t 18),(.t 19)],.mov (some 16) (.t 20),.ext (some 21) 0 (.t 16),.ext (some 22) 1 (.t 16),.alloc 8 120 [(.int .i64 0),(.str []),(.str []),(.int .i64 0),(.str []),(.int .i64 0),(.str []),(.int .i64 0)],.store 8 (.t 8) (.t 21),.mov (some 9) (.t 22)]⟩]) <|
 .seq (.seq (.ops false [⟨none,[.mov (some 23) (.t 9),.bin (some 24) .neq (.t 23) (.k (.int .i64 0))]⟩]) <|
 .cond (.t 24)
  (.seq (.ops false [⟨none,[.build (some 25) [(.int .i64 0),.nils,(.str []),.nils] [],.mov (some 26) (.t 9),.store 4 (.t 6) (.t 25),.mov (some 7) (.t 26)]⟩]) <|
  .ret)
  (.skip)) <|
 .seq (.ops false [⟨none,[.load (some 27) false 8 true (.t 3),.mov (some 28) (.t 1),.call (some 29) true 23 [(.t 27),(.t 28)],.alloc 10 80 [.nils,.nils,.nils,.nils],.store 4 (.t 10) (.t 29)]⟩]) <|
 .seq (.seq (.ops false [⟨none,[.load (some 30) false 4 true (.t 10),.fadr (some 31) 3 (.t 8),.load (some 32) false 2 true (.t 31),.call (some 33) true 26 [(.t 30),(.k (.int .i64 5)),(.t 32)],.un (some 34) .not (.t 33),.mov (some 35) (.t 34)]⟩,
  ⟨some (35,false),[.load (some 36) false 4 true (.t 10),.fadr (some 37) 3 (.t 8),.load (some 38) false 2 true (.t 37),.call (some 39) true 26 [(.t 36),(.k (.int .i64 2)),(.t 38)],.un (some 40) .not (.t 39)]⟩,
  ⟨none,[.pick (some 41) (.t 35) (.k (.bool true)) (.t 40)]⟩]) <|
 .cond (.t 41)
  (.seq (.ops false [⟨none,[.build (some 42) [(.int .i64 0),.nils,(.str []),.nils] [],.store 4 (.t 6) (.t 42),.mov (some 7) (.k (.int .i64 10))]⟩]) <|
  .ret)
  (.skip)) <|
 .seq (.ops false [⟨none,[.load (some 44) false 8 true (.t 3),.fadr (some 45) 3 (.t 8),.load (some 46) false 2 true (.t 45),.fadr (some 47) 5 (.t 8),.load (some 48) false 1 false (.t 47),.fadr (some 49) 6 (.t 8),.load (some 50) false 1 false (.t 49),.call (some 51) true 27 [(.t 44),(.t 46),(.t 48),(.t 50)],.mov (some 43) (.t 51),.ext (some 52) 0 (.t 43),.ext (some 53) 1 (.t 43),.alloc 11 86 [(.str []),(.str []),.nils],.store 3 (.t 11) (.t 52),.mov (some 9) (.t 53)]⟩]) <|
 .seq (.seq (.ops false [⟨none,[.mov (some 54) (.t 9),.bin (some 55) .neq (.t 54) (.k (.int .i64 0))]⟩]) <|
 .cond (.t 55)
  (.seq (.ops false [⟨none,[.fadr (some 56) 1 (.t 11),.load (some 57) false 2 true (.t 56),.build (some 58) [(.int .i64 0),.nils,(.str []),.nils] [(2,2,(.t 57))],.mov (some 59) (.t 9),.store 4 (.t 6) (.t 58),.mov (some 7) (.t 59)]⟩]) <|
  .ret)
  (.skip)) <|
 .seq (.ops false [⟨none,[.load (some 61) false 8 true (.t 3),.fadr (some 62) 3 (.t 8),.load (some 63) false 2 true (.t 62),.ecall (some 64) 114 28 [(.t 61),(.t 63)],.mov (some 60) (.t 64),.ext (some 65) 0 (.t 60),.ext (some 66) 1 (.t 60),.alloc 12 62 [(.int .i64 0),(.str []),.nils],.store 3 (.t 12) (.t 65),.mov (some 13) (.t 66)]⟩]) <|
 .seq (.ops false [⟨none,[.load (some 67) false 3 true (.t 12),.call (some 68) false 29 [(.t 67)],.field (some 69) 3 1 false (.t 68),.mov (some 14) (.t 69)]⟩]) <|
 .seq (.seq (.ops false [⟨none,[.load (some 70) false 4 true (.t 10),.fadr (some 71) 3 (.t 8),.load (some 72) false 2 true (.t 71),.mov (some 73) (.t 14),.fadr (some 74) 0 (.t 11),.load (some 75) false 1 false (.t 74),.call (some 76) true 30 [(.t 70),(.t 72),(.t 73),(.t 75)],.bin (some 77) .neq (.t 76) (.k (.int .i64 1))]⟩]) <|
 .cond (.t 77)
  (.seq (.ops false [⟨none,[.build (some 78) [(.int .i64 0),.nils,(.str []),.nils] [],.store 4 (.t 6) (.t 78),.mov (some 7) (.k (.int .i64 10))]⟩]) <|
  .ret)
  (.skip)) <|
 .seq (.ops false [⟨none,[.fadr (some 79) 1 (.t 11),.load (some 80) false 2 true (.t 79),.build (some 81) [(.int .i64 0),.nils,(.str []),.nils] [(0,1,(.k (.int .i64 1))),(2,2,(.t 80))],.alloc 15 36 [(.int .i64 0),.nils,(.str []),.nils],.store 4 (.t 15) (.t 81)]⟩]) <|
 .seq (.seq (.ops false [⟨none,[.mov (some 82) (.t 13),.un (some 83) .not (.t 82),.mov (some 84) (.t 83)]⟩,
  ⟨some (84,false),[.mov (some 85) (.t 14),.fadr (some 86) 0 (.t 11),.load (some 87) false 1 false (.t 86),.bin (some 88) .neq (.t 85) (.t 87)]⟩,
  ⟨none,[.pick (some 89) (.t 84) (.k (.bool true)) (.t 88)]⟩]) <|
 .cond (.t 89)
  (.seq (.ops false [⟨none,[.fadr (some 90) 0 (.t 15),.store 1 (.t 90) (.k (.int .i64 2))]⟩]) <|
  .ops false [⟨none,[.fadr (some 91) 1 (.t 15),.load (some 92) false 1 false (.t 91),.fadr (some 93) 1 (.t 8),.load (some 94) false 1 false (.t 93),.fadr (some 95) 2 (.t 8),.load (some 96) false 1 false (.t 95),.fadr (some 97) 3 (.t 8),.load (some 98) false 2 true (.t 97),.fadr (some 99) 0 (.t 11),.load (some 100) false 1 false (.t 99),.build (some 101) [(.int .i64 0),(.str []),(.str []),(.int .i64 0),(.str []),(.int .i64 0),(.str []),(.str []),(.int .i64 0),.nils] [(0,1,(.k (.int .i64 1))),(1,1,(.t 94)),(2,1,(.t 96)),(3,2,(.t 98)),(7,1,(.t 100))],.mkl (some 102) 10 [(.t 101)],.app 103 57 10 (.t 92) (.t 102),.fadr (some 104) 1 (.t 15),.store 1 (.t 104) (.t 103)]⟩])
  (.skip)) <|
 .seq (.ops false [⟨none,[.fadr (some 105) 1 (.t 15),.load (some 106) false 1 false (.t 105),.mov (some 107) (.t 1),.mov (some 108) (.t 2),.build (some 109) [(.int .i64 0),(.str []),(.str []),(.int .i64 0),(.str []),(.int .i64 0),(.str []),(.str []),(.int .i64 0),.nils] [(0,1,(.k (.int .i64 10))),(1,1,(.t 107)),(8,1,(.t 108))],.mkl (some 110) 10 [(.t 109)],.app 111 57 10 (.t 106) (.t 110),.fadr (some 112) 1 (.t 15),.store 1 (.t 112) (.t 111)]⟩]) <|
 .seq (.ops false [⟨none,[.load (some 113) false 4 true (.t 15),.store 4 (.t 6) (.t 113),.mov (some 7) (.k (.int .i64 0))]⟩]) <|
 .ret
def e18:C :=
 .seq (.ops false [⟨none,[.box 2 29 (.t 0),.box 3 41 (.t 1),.alloc 4 62 [(.int .i64 0),(.str []),.nils],.mov (some 5) (.k (.bool false))]⟩]) <|
 .seq (.ops false [⟨none,[.fadr (some 7) 2 (.t 2),.load (some 8) false 1 false (.t 7),.load (some 9) false 2 true (.t 3),.call (some 10) true 48 [(.t 8),(.t 9)],.mov (some 6) (.t 10)]⟩]) <|
 .seq (.seq (.ops false [⟨none,[.mov (some 11) (.t 6),.bin (some 12) .lss (.t 11) (.k (.int .i64 0))]⟩]) <|
 .cond (.t 12)
  (.seq (.ops false [⟨none,[.build (some 13) [(.int .i64 0),(.str []),.nils] [],.store 3 (.t 4) (.t 13),.mov (some 5) (.k (.bool false))]⟩]) <|
  .ret)
  (.skip)) <|
 .seq (.ops false [⟨none,[.fadr (some 14) 2 (.t 2),.load (some 15) false 1 false (.t 14),.mov (some 16) (.t 6),.iadr (some 17) 3 (.t 15) (.t 16),.load (some 18) false 3 true (.t 17),.store 3 (.t 4) (.t 18),.mov (some 5) (.k (.bool true))]⟩]) <|
 .ret
def e19:C :=
 .seq (.ops false [⟨none,[.box 1 62 (.t 0),.alloc 2 66 [(.int .i64 0),(.str []),(.str []),(.str []),(.int .i64 0),(.int .i64 0)]]⟩]) <|
 .seq (.seq (.ops false [⟨none,[.fadr (some 3) 2 (.t 1),.load (some 4) false 1 false (.t 3),.len (some 5) false (.t 4),.bin (some 6) .eql (.t 5) (.k (.int .i64 0))]⟩]) <|
 .cond (.t 6)
  (.seq (.ops false [⟨none,[.build (some 7) [(.int .i64 0),(.str []),(.str []),(.str []),(.int .i64 0),(.int .i64 0)] [],.store 6 (.t 2) (.t 7)]⟩]) <|
  .ret)
  (.skip)) <|
 .seq (.ops false [⟨none,[.fadr (some 8) 2 (.t 1),.load (some 9) false 1 false (.t 8),.fadr (some 10) 2 (.t 1),.load (some 11) false 1 false (.t 10),.len (some 12) false (.t 11),.bin (some 13) .sub (.t 12) (.k (.int .i64 1)),.iadr (some 14) 6 (.t 9) (.t 13),.load (some 15) false 6 true (.t 14),.store 6 (.t 2) (.t 15)]⟩]) <|
 .ret
def e20:C :=
 .seq (.ops false [⟨none,[.mov (some 2) (.k .nilp)]⟩]) <|
 .seq (.ops false [⟨none,[.mov (some 5) (.t 0),.build (some 6) [.nils,(.int .i64 0),(.int .u64 0)] [(0,1,(.t 5)),(2,1,(.k (.int .u64 11400714819323198485)))],.box 7 126 (.t 6),.mov (some 3) (.t 7)]⟩]) <|
 .seq (.seq (.ops false [⟨none,[.mov (some 4) (.k (.int .i64 0))]⟩]) <|
 .block 0 <|
  .loop <|
   .seq (.seq (.ops false [⟨none,[.mov (some 8) (.t 4),.mov (some 9) (.t 0),.len (some 10) false (.t 9),.bin (some 11) .lss (.t 8) (.t 10),.mov (some 12) (.t 11)]⟩,
    ⟨some (12,true),[.mov (some 13) (.t 4),.bin (some 14) .lss (.t 13) (.k (.int .i64 64))]⟩,
    ⟨none,[.pick (some 15) (.t 12) (.t 14) (.k (.bool false))]⟩]) <|
   .cond (.t 15)
    (.skip)
    (.exit 0)) <|
   .seq (.block 1 <|
    .seq (.ops true [⟨none,[.mov (some 18) (.t 3),.mov (some 19) (.t 3),.nchk (some 20) (.t 19),.fadr (some 21) 2 (.t 20),.load (some 22) false 1 false (.t 21),.mov (some 23) (.t 0),.mov (some 24) (.t 4),.iadr (some 25) 1 (.t 23) (.t 24),.load (some 26) false 1 false (.t 25),.cvt (some 27) .u64 (.t 26),.bin (some 28) .xor (.t 22) (.t 27),.bin (some 29) .mul (.t 28) (.k (.int .u64 18397679294719823053)),.nchk (some 30) (.t 18),.fadr (some 31) 2 (.t 30),.store 1 (.t 31) (.t 29)]⟩]) <|
    .ops true [⟨none,[.mov (some 32) (.t 3),.mov (some 33) (.t 3),.nchk (some 34) (.t 33),.fadr (some 35) 2 (.t 34),.load (some 36) false 1 false (.t 35),.mov (some 37) (.t 3),.nchk (some 38) (.t 37),.fadr (some 39) 2 (.t 38),.load (some 40) false 1 false (.t 39),.bin (some 41) .shr (.t 40) (.k (.int .u64 33)),.bin (some 42) .xor (.t 36) (.t 41),.nchk (some 43) (.t 32),.fadr (some 44) 2 (.t 43),.store 1 (.t 44) (.t 42)]⟩]) <|
   .ops false [⟨none,[.mov (some 16) (.t 4),.bin (some 17) .add (.t 16) (.k (.int .i64 1)),.mov (some 4) (.t 17)]⟩]) <|
 .seq (.ops false [⟨none,[.mov (some 45) (.t 3),.mov (some 2) (.t 45)]⟩]) <|
 .ret
def e21:C :=
 .seq (.ops false [⟨none,[.mov (some 4) (.k (.int .i64 0))]⟩]) <|
 .seq (.seq (.ops true [⟨none,[.mov (some 5) (.t 0),.nchk (some 6) (.t 5),.fadr (some 7) 1 (.t 6),.load (some 8) false 1 false (.t 7),.mov (some 9) (.t 0),.nchk (some 10) (.t 9),.fadr (some 11) 0 (.t 10),.load (some 12) false 1 false (.t 11),.len (some 13) false (.t 12),.bin (some 14) .lss (.t 8) (.t 13)]⟩]) <|
 .cond (.t 14)
  (.seq (.ops false [⟨none,[.mov (some 15) (.t 0),.nchk (some 16) (.t 15),.fadr (some 17) 1 (.t 16),.load (some 18) false 1 false (.t 17),.bin (some 19) .add (.t 18) (.k (.int .i64 1)),.nchk (some 20) (.t 15),.fadr (some 21) 1 (.t 20),.store 1 (.t 21) (.t 19)]⟩]) <|
  .seq (.ops true [⟨none,[.mov (some 22) (.t 0),.nchk (some 23) (.t 22),.fadr (some 24) 0 (.t 23),.load (some 25) false 1 false (.t 24),.mov (some 26) (.t 0),.nchk (some 27) (.t 26),.fadr (some 28) 1 (.t 27),.load (some 29) false 1 false (.t 28),.bin (some 30) .sub (.t 29) (.k (.int .i64 1)),.iadr (some 31) 1 (.t 25) (.t 30),.load (some 32) false 1 false (.t 31),.mov (some 33) (.t 1),.call (some 34) true 14 [(.t 32),(.t 33)],.mov (some 4) (.t 34)]⟩]) <|
  .ret)
  (.skip)) <|
 .seq (.ops false [⟨none,[.mov (some 35) (.t 0),.mov (some 36) (.t 0),.nchk (some 37) (.t 36),.fadr (some 38) 2 (.t 37),.load (some 39) false 1 false (.t 38),.bin (some 40) .mul (.t 39) (.k (.int .u64 6364136223846793005)),.bin (some 41) .add (.t 40) (.k (.int .u64 1442695040888963407)),.nchk (some 42) (.t 35),.fadr (some 43) 2 (.t 42),.store 1 (.t 43) (.t 41)]⟩]) <|
 .seq (.ops false [⟨none,[.mov (some 44) (.t 0),.nchk (some 45) (.t 44),.fadr (some 46) 2 (.t 45),.load (some 47) false 1 false (.t 46),.bin (some 48) .shr (.t 47) (.k (.int .u64 33)),.mov (some 49) (.t 1),.cvt (some 50) .u64 (.t 49),.bin (some 51) .rem (.t 48) (.t 50),.cvt (some 52) .i64 (.t 51),.mov (some 4) (.t 52)]⟩]) <|
 .ret
def e22:C :=
 .seq (.ops false [⟨none,[.mov (some 2) (.k (.str []))]⟩]) <|
 .seq (.ops false [⟨none,[.build (some 3) [(.str []),(.str []),(.str []),(.str []),(.str []),(.str []),(.str []),(.str [])] [(0,1,(.k (.str [97,108,108,111,119,32,114,101,97,100,32,97,108,108,32,60,97,108,108,62,10,97,108,108,111,119,32,101,100,105,116,32,97,108,108,32,60,97,108,108,62,10,97,108,108,111,119,32,109,111,118,101,32,97,108,108,32,60,97,108,108,62,10,97,108,108,111,119,32,100,101,108,101,116,101,32,97,108,108,32,60,97,108,108,62,10,97,108,108,111,119,32,114,101,118,105,101,119,32,97,108,108,32,60,97,108,108,62,10]))),(1,1,(.k (.str [97,108,108,111,119,32,114,101,97,100,32,97,108,108,32,60,97,108,108,62,10,97,108,108,111,119,32,101,100,105,116,32,97,108,108,32,60,97,108,108,62,10,97,108,108,111,119,32,109,111,118,101,32,97,108,108,32,60,97,108,108,62,10,97,108,108,111,119,32,100,101,108,101,116,101,32,97,108,108,32,60,97,108,108,62,10,97,108,108,111,119,32,114,101,118,105,101,119,32,97,108,108,32,60,97,108,108,62,10,103,114,111,117,112,32,115,116,97,102,102,32,97,110,110,10,100,101,110,121,32,114,101,97,100,32,97,108,108,32,65,10,97,108,108,111,119,32,114,101,97,100,32,115,116,97,102,102,32,65,47,67,10]))),(2,1,(.k (.str [97,108,108,111,119,32,114,101,97,100,32,97,108,108,32,60,97,108,108,62,10,97,108,108,111,119,32,101,100,105,116,32,97,108,108,32,60,97,108,108,62,10,97,108,108,111,119,32,109,111,118,101,32,97,108,108,32,60,97,108,108,62,10,97,108,108,111,119,32,100,101,108,101,116,101,32,97,108,108,32,60,97,108,108,62,10,97,108,108,111,119,32,114,101,118,105,101,119,32,97,108,108,32,60,97,108,108,62,10,103,114,111,117,112,32,115,116,97,102,102,32,97,110,110,10,103,117,97,114,100,32,115,116,97,102,102,32,65,32,124,32,83,10,115,116,114,105,99,116,32,115,116,97,102,102,32,84,101,109,112,108,97,116,101,58,84,10,103,117,97,114,100,32,115,116,97,102,102,32,66,10]))),(3,1,(.k (.str [103,114,111,117,112,32,115,116,97,102,102,32,97,110,110,32,64,109,111,114,101,10,103,114,111,117,112,32,109,111,114,101,32,98,111,98,10,97,108,108,111,119,32,114,101,97,100,32,97,108,108,32,60,77,97,105,110,62,10,97,108,108,111,119,32,114,101,97,100,32,97,108,108,32,60,84,101,109,112,108,97,116,101,62,10,97,108,108,111,119,32,114,101,97,100,32,97,108,108,32,60,67,97,116,101,103,111,114,121,62,10,97,108,108,111,119,32,101,100,105,116,32,117,115,101,114,115,32,60,77,97,105,110,62,10,97,108,108,111,119,32,101,100,105,116,32,115,116,97,102,102,32,60,67,97,116,101,103,111,114,121,62,10,97,108,108,111,119,32,114,101,118,105,101,119,32,115,116,97,102,102,32,60,97,108,108,62,10,97,108,108,111,119,32,109,111,118,101,32,115,116,97,102,102,32,60,97,108,108,62,10,97,108,108,111,119,32,100,101,108,101,116,101,32,115,116,97,102,102,32,60,97,108,108,62,10,97,108,108,111,119,32,114,101,97,100,32,115,116,97,102,102,32,60,97,108,108,62,10,97,108,108,111,119,32,101,100,105,116,32,115,116,97,102,102,32,60,97,108,108,62,10]))),(4,1,(.k (.str [97,108,108,111,119,32,114,101,97,100,32,97,108,108,32,60,97,108,108,62,10,97,108,108,111,119,32,101,100,105,116,32,97,108,108,32,60,97,108,108,62,10,97,108,108,111,119,32,109,111,118,101,32,97,108,108,32,60,97,108,108,62,10,97,108,108,111,119,32,100,101,108,101,116,101,32,97,108,108,32,60,97,108,108,62,10,97,108,108,111,119,32,114,101,118,105,101,119,32,97,108,108,32,60,97,108,108,62,10,100,101,110,121,32,114,101,97,100,32,97,108,108,32,66,10,100,101,110,121,32,114,101,97,100,32,97,108,108,32,67,97,116,101,103,111,114,121,58,89,10]))),(5,1,(.k (.str [97,108,108,111,119,32,114,101,97,100,32,97,108,108,32,60,97,108,108,62,10,97,108,108,111,119,32,101,100,105,116,32,97,108,108,32,60,97,108,108,62,10,97,108,108,111,119,32,109,111,118,101,32,97,108,108,32,60,97,108,108,62,10,97,108,108,111,119,32,100,101,108,101,116,101,32,97,108,108,32,60,97,108,108,62,10,97,108,108,111,119,32,114,101,118,105,101,119,32,97,108,108,32,60,97,108,108,62,10,100,101,110,121,32,101,100,105,116,32,97,108,108,32,66,10,100,101,110,121,32,114,101,97,100,32,117,115,101,114,115,32,68,10]))),(6,1,(.k (.str [97,108,108,111,119,32,114,101,97,100,32,97,108,108,32,60,97,108,108,62,10,97,108,108,111,119,32,101,100,105,116,32,97,108,108,32,60,97,108,108,62,10,97,108,108,111,119,32,109,111,118,101,32,97,108,108,32,60,97,108,108,62,10,97,108,108,111,119,32,100,101,108,101,116,101,32,97,108,108,32,60,97,108,108,62,10,97,108,108,111,119,32,114,101,118,105,101,119,32,97,108,108,32,60,97,108,108,62,10]))),(7,1,(.k (.str [97,108,108,111,119,32,114,101,97,100,32,97,108,108,32,60,97,108,108,62,10,97,108,108,111,119,32,101,100,105,116,32,97,108,108,32,60,97,108,108,62,10,97,108,108,111,119,32,109,111,118,101,32,97,108,108,32,60,97,108,108,62,10,97,108,108,111,119,32,100,101,108,101,116,101,32,97,108,108,32,60,97,108,108,62,10,97,108,108,111,119,32,114,101,118,105,101,119,32,97,108,108,32,60,97,108,108,62,10,103,114,111,117,112,32,115,116,97,102,102,32,97,110,110,10,100,101,110,121,32,114,101,118,105,101,119,32,97,108,108,32,60,97,108,108,62,10,97,108,108,111,119,32,114,101,118,105,101,119,32,115,116,97,102,102,32,60,77,97,105,110,62,10,103,117,97,114,100,32,115,116,97,102,102,32,65,10,103,117,97,114,100,32,115,116,97,102,102,32,68,10])))],.mov (some 4) (.t 0),.ecall (some 5) 7 21 [(.t 4),(.k (.int .i64 8))],.idxA (some 6) 8 1 false (.t 3) (.t 5),.mov (some 2) (.t 6)]⟩]) <|
 .ret
def e23:C :=
 .seq (.ops false [⟨none,[.box 2 29 (.t 0),.alloc 4 80 [.nils,.nils,.nils,.nils]]⟩]) <|
 .seq (.ops false [⟨none,[.load (some 6) false 8 true (.t 2),.call (some 7) true 31 [(.t 6)],.alloc 5 78 [.nils,.nils,.nils],.store 3 (.t 5) (.t 7)]⟩]) <|
 .seq (.ops true [⟨none,[.load (some 8) false 3 true (.t 5),.load (some 9) false 3 true (.t 5),.mov (some 10) (.t 1),.call (some 11) true 49 [(.t 9),(.t 10)],.build (some 12) [.nils,.nils,.nils,.nils] [(0,3,(.t 8)),(3,1,(.t 11))],.store 4 (.t 4) (.t 12)]⟩]) <|
 .ret
def e24:C :=
 .seq (.ops false [⟨none,[.box 1 41 (.t 0),.mov (some 2) (.k (.bool false))]⟩]) <|
 .seq (.ops false [⟨none,[.fadr (some 9) 1 (.t 1),.load (some 10) false 1 false (.t 9),.mov (some 3) (.t 10)]⟩]) <|
 .seq (.seq (.ops false [⟨none,[.fadr (some 11) 0 (.t 1),.load (some 12) false 1 false (.t 11),.bin (some 13) .lss (.t 12) (.k (.int .i64 0)),.mov (some 14) (.t 13)]⟩,
  ⟨some (14,false),[.fadr (some 15) 0 (.t 1),.load (some 16) false 1 false (.t 15),.bin (some 17) .geq (.t 16) (.k (.int .i64 6))]⟩,
  ⟨none,[.pick (some 18) (.t 14) (.k (.bool true)) (.t 17),.mov (some 19) (.t 18)]⟩,
  ⟨some (19,false),[.mov (some 20) (.t 3),.len (some 21) true (.t 20),.bin (some 22) .lss (.t 21) (.k (.int .i64 1))]⟩,
  ⟨none,[.pick (some 23) (.t 19) (.k (.bool true)) (.t 22),.mov (some 24) (.t 23)]⟩,
  ⟨some (24,false),[.mov (some 25) (.t 3),.len (some 26) true (.t 25),.bin (some 27) .gtr (.t 26) (.k (.int .i64 100))]⟩,
  ⟨none,[.pick (some 28) (.t 24) (.k (.bool true)) (.t 27),.mov (some 29) (.t 28)]⟩,
  ⟨some (29,false),[.mov (some 30) (.t 3),.call (some 31) true 50 [(.t 30)],.un (some 32) .not (.t 31)]⟩,
  ⟨none,[.pick (some 33) (.t 29) (.k (.bool true)) (.t 32)]⟩]) <|
 .cond (.t 33)
  (.seq (.ops false [⟨none,[.mov (some 2) (.k (.bool false))]⟩]) <|
  .ret)
  (.skip)) <|
 .seq (.seq (.ops false [⟨none,[.mov (some 34) (.t 3),.call (some 35) true 51 [(.t 34),(.k (.str [47]))],.len (some 36) false (.t 35),.mov (some 37) (.k (.int .i64 0))]⟩]) <|
 .block 0 <|
  .loop <|
   .seq (.ops false [⟨none,[.bin (some 38) .lss (.t 37) (.t 36)]⟩]) <|
   .seq (.cond (.t 38)
    (.skip)
    (.exit 0)) <|
   .seq (.block 1 <|
    .seq (.ops false [⟨none,[.iadr (some 39) 1 (.t 35) (.t 37),.load (some 40) false 1 false (.t 39),.mov (some 5) (.t 40)]⟩]) <|
    .seq (.ops false [⟨none,[.mov (some 41) (.t 5),.bin (some 42) .eql (.t 41) (.k (.str [])),.mov (some 43) (.t 42)]⟩,
     ⟨some (43,false),[.mov (some 44) (.t 5),.idx (some 45) (.t 44) (.k (.int .i64 0)),.bin (some 46) .eql (.t 45) (.k (.int .u8 32))]⟩,
     ⟨none,[.pick (some 47) (.t 43) (.k (.bool true)) (.t 46),.mov (some 48) (.t 47)]⟩,
     ⟨some (48,false),[.mov (some 49) (.t 5),.mov (some 50) (.t 5),.len (some 51) true (.t 50),.bin (some 52) .sub (.t 51) (.k (.int .i64 1)),.idx (some 53) (.t 49) (.t 52),.bin (some 54) .eql (.t 53) (.k (.int .u8 32))]⟩,
     ⟨none,[.pick (some 55) (.t 48) (.k (.bool true)) (.t 54)]⟩]) <|
    .cond (.t 55)
     (.seq (.ops false [⟨none,[.mov (some 2) (.k (.bool false))]⟩]) <|
     .ret)
     (.skip)) <|
   .ops false [⟨none,[.bin (some 56) .add (.t 37) (.k (.int .i64 1)),.mov (some 37) (.t 56)]⟩]) <|
 .seq (.seq (.ops false [⟨none,[.mov (some 57) (.t 3),.idx (some 58) (.t 57) (.k (.int .i64 0)),.bin (some 59) .eql (.t 58) (.k (.int .u8 58)),.mov (some 60) (.t 59)]⟩,
  ⟨some (60,false),[.mov (some 61) (.t 3),.idx (some 62) (.t 61) (.k (.int .i64 0)),.bin (some 63) .geq (.t 62) (.k (.int .u8 97)),.mov (some 64) (.t 63)]⟩,
  ⟨some (64,true),[.mov (some 65) (.t 3),.idx (some 66) (.t 65) (.k (.int .i64 0)),.bin (some 67) .leq (.t 66) (.k (.int .u8 122))]⟩,
  ⟨some (60,false),[.pick (some 68) (.t 64) (.t 67) (.k (.bool false))]⟩,
  ⟨none,[.pick (some 69) (.t 60) (.k (.bool true)) (.t 68)]⟩]) <|
 .cond (.t 69)
  (.seq (.ops false [⟨none,[.mov (some 2) (.k (.bool false))]⟩]) <|
  .ret)
  (.skip)) <|
 .seq (.ops false [⟨none,[.mov (some 71) (.t 3),.call (some 72) true 52 [(.t 71)],.mov (some 70) (.t 72),.ext (some 73) 0 (.t 70),.ext (some 74) 1 (.t 70),.ext (some 75) 2 (.t 70),.mov (some 6) (.t 73),.mov (some 7) (.t 74),.mov (some 8) (.t 75)]⟩]) <|
 .seq (.ops false [⟨none,[.fadr (some 76) 0 (.t 1),.load (some 77) false 1 false (.t 76),.bin (some 78) .neq (.t 77) (.k (.int .i64 0)),.mov (some 79) (.t 78)]⟩,
  ⟨some (79,false),[.mov (some 80) (.t 8),.un (some 81) .not (.t 80)]⟩,
  ⟨none,[.pick (some 82) (.t 79) (.k (.bool true)) (.t 81),.mov (some 2) (.t 82)]⟩]) <|
 .ret
def e25:C :=
 .seq (.ops false [⟨none,[.mov (some 2) (.k (.bool false))]⟩]) <|
 .seq (.ops false [⟨none,[.mov (some 3) (.t 0),.bin (some 4) .eql (.t 3) (.k (.str [])),.mov (some 5) (.t 4)]⟩,
  ⟨some (5,false),[.mov (some 6) (.t 0),.call (some 7) true 53 [(.t 6)]]⟩,
  ⟨none,[.pick (some 8) (.t 5) (.k (.bool true)) (.t 7),.mov (some 2) (.t 8)]⟩]) <|
 .ret
def e26:C :=
 .seq (.ops false [⟨none,[.box 3 80 (.t 0),.box 5 41 (.t 2),.mov (some 6) (.k (.bool false))]⟩]) <|
 .seq (.ops false [⟨none,[.fadr (some 7) 0 (.t 3),.load (some 8) false 3 true (.t 7),.fadr (some 9) 3 (.t 3),.load (some 10) false 1 false (.t 9),.mov (some 11) (.t 1),.load (some 12) false 2 true (.t 5),.call (some 13) true 54 [(.t 8),(.t 10),(.t 11),(.t 12)],.mov (some 6) (.t 13)]⟩]) <|
 .ret
def e27:C :=
 .seq (.ops false [⟨none,[.box 4 29 (.t 0),.box 5 41 (.t 1),.alloc 8 86 [(.str []),(.str []),.nils],.mov (some 9) (.k (.int .i64 0))]⟩]) <|
 .seq (.ops false [⟨none,[.load (some 22) false 8 true (.t 4),.load (some 23) false 2 true (.t 5),.ecall (some 24) 103 28 [(.t 22),(.t 23)],.mov (some 21) (.t 24),.ext (some 25) 0 (.t 21),.ext (some 26) 1 (.t 21),.alloc 10 62 [(.int .i64 0),(.str []),.nils],.store 3 (.t 10) (.t 25),.mov (some 11) (.t 26)]⟩]) <|
 .seq (.ops false [⟨none,[.load (some 27) false 3 true (.t 10),.call (some 28) false 29 [(.t 27)],.alloc 12 66 [(.int .i64 0),(.str []),(.str []),(.str []),(.int .i64 0),(.int .i64 0)],.store 6 (.t 12) (.t 28)]⟩]) <|
 .seq (.ops false [⟨none,[.mov (some 29) (.t 3),.build (some 30) [(.str []),(.str []),.nils] [(0,1,(.t 29))],.alloc 13 86 [(.str []),(.str []),.nils],.store 3 (.t 13) (.t 30)]⟩]) <|
 .seq (.block 0 <|
  .seq (.ops false [⟨none,[.mov (some 32) (.t 2),.bin (some 33) .eql (.t 32) (.k (.int .i64 0)),.mov (some 34) (.t 33)]⟩,
   ⟨some (34,true),[.mov (some 35) (.t 11)]⟩,
   ⟨none,[.pick (some 36) (.t 34) (.t 35) (.k (.bool false)),.mov (some 31) (.t 36)]⟩]) <|
  .cond (.t 31)
   (.seq (.ops false [⟨none,[.build (some 37) [(.str []),(.str []),.nils] [],.store 3 (.t 8) (.t 37),.mov (some 9) (.k (.int .i64 12))]⟩]) <|
   .ret)
   (.seq (.ops false [⟨none,[.mov (some 39) (.t 2),.bin (some 40) .neq (.t 39) (.k (.int .i64 0)),.mov (some 41) (.t 40)]⟩,
    ⟨some (41,true),[.mov (some 42) (.t 11),.mov (some 43) (.t 42)]⟩,
    ⟨some (43,true),[.mov (some 44) (.t 2),.fadr (some 45) 0 (.t 12),.load (some 46) false 1 false (.t 45),.bin (some 47) .eql (.t 44) (.t 46)]⟩,
    ⟨some (41,true),[.pick (some 48) (.t 43) (.t 47) (.k (.bool false)),.un (some 49) .not (.t 48)]⟩,
    ⟨none,[.pick (some 50) (.t 41) (.t 49) (.k (.bool false)),.mov (some 38) (.t 50)]⟩]) <|
   .cond (.t 38)
    (.seq (.ops false [⟨none,[.load (some 52) false 8 true (.t 4),.load (some 53) false 2 true (.t 5),.mov (some 54) (.t 2),.call (some 55) true 55 [(.t 52),(.t 53),(.t 54)],.mov (some 51) (.t 55),.ext (some 56) 0 (.t 51),.ext (some 57) 1 (.t 51),.alloc 14 66 [(.int .i64 0),(.str []),(.str []),(.str []),(.int .i64 0),(.int .i64 0)],.store 6 (.t 14) (.t 56),.mov (some 15) (.t 57)]⟩]) <|
    .seq (.seq (.ops false [⟨none,[.mov (some 58) (.t 15),.un (some 59) .not (.t 58)]⟩]) <|
    .cond (.t 59)
     (.seq (.ops false [⟨none,[.build (some 60) [(.str []),(.str []),.nils] [],.store 3 (.t 8) (.t 60),.mov (some 9) (.k (.int .i64 12))]⟩]) <|
     .ret)
     (.skip)) <|
    .seq (.ops false [⟨none,[.fadr (some 62) 3 (.t 14),.load (some 63) false 1 false (.t 62),.fadr (some 64) 3 (.t 12),.load (some 65) false 1 false (.t 64),.mov (some 66) (.t 3),.call (some 67) true 56 [(.t 63),(.t 65),(.t 66)],.mov (some 61) (.t 67),.ext (some 68) 0 (.t 61),.ext (some 69) 1 (.t 61),.alloc 16 34 [(.str []),.nils],.store 2 (.t 16) (.t 68),.mov (some 17) (.t 69)]⟩]) <|
    .seq (.seq (.ops false [⟨none,[.mov (some 70) (.t 17),.bin (some 71) .neq (.t 70) (.k (.int .i64 0))]⟩]) <|
    .cond (.t 71)
     (.seq (.ops false [⟨none,[.build (some 72) [(.str []),(.str []),.nils] [],.mov (some 73) (.t 17),.store 3 (.t 8) (.t 72),.mov (some 9) (.t 73)]⟩]) <|
     .ret)
     (.skip)) <|
    .seq (.seq (.ops false [⟨none,[.fadr (some 74) 1 (.t 16),.load (some 75) false 1 false (.t 74),.len (some 76) false (.t 75),.bin (some 77) .gtr (.t 76) (.k (.int .i64 0))]⟩]) <|
    .cond (.t 77)
     (.seq (.ops false [⟨none,[.load (some 78) false 2 true (.t 16),.build (some 79) [(.str []),(.str []),.nils] [(1,2,(.t 78))],.store 3 (.t 8) (.t 79),.mov (some 9) (.k (.int .i64 9))]⟩]) <|
     .ret)
     (.skip)) <|
    .ops false [⟨none,[.fadr (some 80) 0 (.t 16),.load (some 81) false 1 false (.t 80),.load (some 82) false 2 true (.t 16),.build (some 83) [(.str []),(.str []),.nils] [(0,1,(.t 81)),(1,2,(.t 82))],.store 3 (.t 13) (.t 83)]⟩])
    (.skip))) <|
 .seq (.seq (.ops false [⟨none,[.fadr (some 84) 0 (.t 13),.load (some 85) false 1 false (.t 84),.len (some 86) true (.t 85),.bin (some 87) .gtr (.t 86) (.k (.int .i64 8192))]⟩]) <|
 .cond (.t 87)
  (.seq (.ops false [⟨none,[.build (some 88) [(.str []),(.str []),.nils] [],.store 3 (.t 8) (.t 88),.mov (some 9) (.k (.int .i64 3))]⟩]) <|
  .ret)
  (.skip)) <|
 .seq (.seq (.ops false [⟨none,[.load (some 89) false 2 true (.t 5),.load (some 90) false 2 true (.k (.cptr [(.int .i64 5),(.str [80,111,108,105,99,121])])),.eqA (some 91) false [0,1] (.t 89) (.t 90)]⟩]) <|
 .cond (.t 91)
  (.seq (.ops false [⟨none,[.fadr (some 93) 0 (.t 13),.load (some 94) false 1 false (.t 93),.call (some 95) true 57 [(.t 94)],.mov (some 92) (.t 95),.ext (some 96) 0 (.t 92),.ext (some 97) 1 (.t 92),.ext (some 98) 2 (.t 92),.alloc 18 78 [.nils,.nils,.nils],.store 3 (.t 18) (.t 96),.mov (some 19) (.t 97),.mov (some 20) (.t 98)]⟩]) <|
  .seq (.ops false [⟨none,[.mov (some 99) (.t 20),.bin (some 100) .neq (.t 99) (.k (.int .i64 0))]⟩]) <|
  .cond (.t 100)
   (.seq (.ops false [⟨none,[.build (some 101) [(.str []),(.str []),.nils] [],.store 3 (.t 8) (.t 101),.mov (some 9) (.k (.int .i64 7))]⟩]) <|
   .ret)
   (.skip))
  (.skip)) <|
 .seq (.ops false [⟨none,[.load (some 102) false 3 true (.t 13),.store 3 (.t 8) (.t 102),.mov (some 9) (.k (.int .i64 0))]⟩]) <|
 .ret
def e28:C :=
 .seq (.ops false [⟨none,[.box 2 29 (.t 0),.box 3 41 (.t 1),.alloc 4 62 [(.int .i64 0),(.str []),.nils],.mov (some 5) (.k (.bool false))]⟩]) <|
 .seq (.seq (.ops false [⟨none,[.fadr (some 8) 2 (.t 2),.load (some 9) false 1 false (.t 8),.len (some 10) false (.t 9),.mov (some 11) (.k (.int .i64 0))]⟩]) <|
 .block 0 <|
  .loop <|
   .seq (.ops false [⟨none,[.bin (some 12) .lss (.t 11) (.t 10)]⟩]) <|
   .seq (.cond (.t 12)
    (.skip)
    (.exit 0)) <|
   .seq (.block 1 <|
    .seq (.ops false [⟨none,[.iadr (some 13) 3 (.t 9) (.t 11),.load (some 14) false 3 true (.t 13),.alloc 7 62 [(.int .i64 0),(.str []),.nils],.store 3 (.t 7) (.t 14)]⟩]) <|
    .seq (.ops false [⟨none,[.fadr (some 15) 0 (.t 7),.load (some 16) false 2 true (.t 15),.load (some 17) false 2 true (.t 3),.eqA (some 18) false [0,1] (.t 16) (.t 17)]⟩]) <|
    .cond (.t 18)
     (.seq (.ops false [⟨none,[.load (some 19) false 3 true (.t 7),.ecall (some 20) 23 58 [(.t 19)],.store 3 (.t 4) (.t 20),.mov (some 5) (.k (.bool true))]⟩]) <|
     .ret)
     (.skip)) <|
   .ops false [⟨none,[.bin (some 21) .add (.t 11) (.k (.int .i64 1)),.mov (some 11) (.t 21)]⟩]) <|
 .seq (.ops false [⟨none,[.build (some 22) [(.int .i64 0),(.str []),.nils] [],.store 3 (.t 4) (.t 22),.mov (some 5) (.k (.bool false))]⟩]) <|
 .ret
def e29:C :=
 .seq (.ops false [⟨none,[.box 1 62 (.t 0),.alloc 2 66 [(.int .i64 0),(.str []),(.str []),(.str []),(.int .i64 0),(.int .i64 0)]]⟩]) <|
 .seq (.seq (.ops false [⟨none,[.fadr (some 3) 2 (.t 1),.load (some 4) false 1 false (.t 3),.len (some 5) false (.t 4),.bin (some 6) .eql (.t 5) (.k (.int .i64 0))]⟩]) <|
 .cond (.t 6)
  (.seq (.ops false [⟨none,[.build (some 7) [(.int .i64 0),(.str []),(.str []),(.str []),(.int .i64 0),(.int .i64 0)] [],.store 6 (.t 2) (.t 7)]⟩]) <|
  .ret)
  (.skip)) <|
 .seq (.ops false [⟨none,[.fadr (some 8) 2 (.t 1),.load (some 9) false 1 false (.t 8),.fadr (some 10) 2 (.t 1),.load (some 11) false 1 false (.t 10),.len (some 12) false (.t 11),.bin (some 13) .sub (.t 12) (.k (.int .i64 1)),.iadr (some 14) 6 (.t 9) (.t 13),.load (some 15) false 6 true (.t 14),.store 6 (.t 2) (.t 15)]⟩]) <|
 .ret
def e30:C :=
 .seq (.ops false [⟨none,[.box 4 80 (.t 0),.box 5 41 (.t 1),.mov (some 8) (.k (.int .i64 0))]⟩]) <|
 .seq (.ops false [⟨none,[.fadr (some 9) 0 (.t 4),.load (some 10) false 3 true (.t 9),.fadr (some 11) 3 (.t 4),.load (some 12) false 1 false (.t 11),.load (some 13) false 2 true (.t 5),.mov (some 14) (.t 2),.mov (some 15) (.t 3),.call (some 16) true 59 [(.t 10),(.t 12),(.t 13),(.t 14),(.t 15)],.mov (some 8) (.t 16)]⟩]) <|
 .ret
def e31:C :=
 .seq (.ops false [⟨none,[.box 1 29 (.t 0),.alloc 2 78 [.nils,.nils,.nils]]⟩]) <|
 .seq (.ops false [⟨none,[.load (some 9) false 8 true (.t 1),.load (some 10) false 2 true (.k (.cptr [(.int .i64 5),(.str [80,111,108,105,99,121])])),.ecall (some 11) 29 28 [(.t 9),(.t 10)],.mov (some 8) (.t 11),.ext (some 12) 0 (.t 8),.ext (some 13) 1 (.t 8),.alloc 3 62 [(.int .i64 0),(.str []),.nils],.store 3 (.t 3) (.t 12),.mov (some 4) (.t 13)]⟩]) <|
 .seq (.seq (.ops false [⟨none,[.mov (some 14) (.t 4),.un (some 15) .not (.t 14)]⟩]) <|
 .cond (.t 15)
  (.seq (.ops false [⟨none,[.build (some 16) [.nils,.nils,.nils] [],.store 3 (.t 2) (.t 16)]⟩]) <|
  .ret)
  (.skip)) <|
 .seq (.ops false [⟨none,[.load (some 18) false 3 true (.t 3),.call (some 19) false 29 [(.t 18)],.field (some 20) 3 1 false (.t 19),.call (some 21) true 57 [(.t 20)],.mov (some 17) (.t 21),.ext (some 22) 0 (.t 17),.ext (some 23) 1 (.t 17),.ext (some 24) 2 (.t 17),.alloc 5 78 [.nils,.nils,.nils],.store 3 (.t 5) (.t 22),.mov (some 6) (.t 23),.mov (some 7) (.t 24)]⟩]) <|
 .seq (.seq (.ops false [⟨none,[.mov (some 25) (.t 7),.bin (some 26) .neq (.t 25) (.k (.int .i64 0))]⟩]) <|
 .cond (.t 26)
  (.seq (.ops false [⟨none,[.build (some 27) [.nils,.nils,.nils] [],.store 3 (.t 2) (.t 27)]⟩]) <|
  .ret)
  (.skip)) <|
 .seq (.ops false [⟨none,[.load (some 28) false 3 true (.t 5),.store 3 (.t 2) (.t 28)]⟩]) <|
 .ret
def e41:C :=
 .seq (.ops false [⟨none,[.alloc 0 41 [(.int .i64 0),(.str [])]]⟩]) <|
 .seq (.ops false [⟨none,[.build (some 1) [(.int .i64 0),(.str [])] [(0,1,(.k (.int .i64 5))),(1,1,(.k (.str [80,111,108,105,99,121])))],.store 2 (.t 0) (.t 1)]⟩]) <|
 .ret
def e42:C :=
 .seq (.ops false [⟨none,[.box 1 29 (.t 0),.mov (some 2) (.k (.bool false))]⟩]) <|
 .seq (.seq (.ops false [⟨none,[.fadr (some 3) 0 (.t 1),.load (some 4) false 1 false (.t 3),.bin (some 5) .lss (.t 4) (.k (.int .i64 0)),.mov (some 6) (.t 5)]⟩,
  ⟨some (6,false),[.fadr (some 7) 0 (.t 1),.load (some 8) false 1 false (.t 7),.bin (some 9) .gtr (.t 8) (.k (.int .i64 1073741824))]⟩,
  ⟨none,[.pick (some 10) (.t 6) (.k (.bool true)) (.t 9),.mov (some 11) (.t 10)]⟩,
  ⟨some (11,false),[.fadr (some 12) 1 (.t 1),.load (some 13) false 1 false (.t 12),.bin (some 14) .lss (.t 13) (.k (.int .i64 0))]⟩,
  ⟨none,[.pick (some 15) (.t 11) (.k (.bool true)) (.t 14),.mov (some 16) (.t 15)]⟩,
  ⟨some (16,false),[.fadr (some 17) 1 (.t 1),.load (some 18) false 1 false (.t 17),.bin (some 19) .gtr (.t 18) (.k (.int .i64 52595999))]⟩,
  ⟨none,[.pick (some 20) (.t 16) (.k (.bool true)) (.t 19)]⟩]) <|
 .cond (.t 20)
  (.seq (.ops false [⟨none,[.mov (some 2) (.k (.bool false))]⟩]) <|
  .ret)
  (.skip)) <|
 .seq (.ops false [⟨none,[.load (some 21) false 8 true (.t 1),.call (some 22) true 68 [(.t 21)],.mov (some 23) (.t 22)]⟩,
  ⟨some (23,true),[.load (some 24) false 8 true (.t 1),.call (some 25) true 69 [(.t 24)]]⟩,
  ⟨none,[.pick (some 26) (.t 23) (.t 25) (.k (.bool false)),.mov (some 27) (.t 26)]⟩,
  ⟨some (27,true),[.load (some 28) false 8 true (.t 1),.call (some 29) true 70 [(.t 28)]]⟩,
  ⟨none,[.pick (some 30) (.t 27) (.t 29) (.k (.bool false)),.mov (some 2) (.t 30)]⟩]) <|
 .ret
def e43:C :=
 .seq (.ops false [⟨none,[.box 1 57 (.t 0),.mov (some 2) (.k (.int .i64 0))]⟩]) <|
 .seq (.seq (.ops false [⟨none,[.load (some 4) false 10 true (.t 1),.call (some 5) true 71 [(.t 4)],.un (some 6) .not (.t 5)]⟩]) <|
 .cond (.t 6)
  (.seq (.ops false [⟨none,[.mov (some 2) (.k (.int .i64 7))]⟩]) <|
  .ret)
  (.skip)) <|
 .seq (.seq (.ops false [⟨none,[.load (some 7) false 10 true (.t 1),.call (some 8) true 72 [(.t 7)],.un (some 9) .not (.t 8)]⟩]) <|
 .cond (.t 9)
  (.seq (.ops false [⟨none,[.mov (some 2) (.k (.int .i64 2))]⟩]) <|
  .ret)
  (.skip)) <|
 .seq (.seq (.ops false [⟨none,[.fadr (some 10) 7 (.t 1),.load (some 11) false 1 false (.t 10),.len (some 12) true (.t 11),.bin (some 13) .gtr (.t 12) (.k (.int .i64 8192)),.mov (some 14) (.t 13)]⟩,
  ⟨some (14,false),[.fadr (some 15) 2 (.t 1),.load (some 16) false 1 false (.t 15),.len (some 17) true (.t 16),.bin (some 18) .gtr (.t 17) (.k (.int .i64 200))]⟩,
  ⟨none,[.pick (some 19) (.t 14) (.k (.bool true)) (.t 18)]⟩]) <|
 .cond (.t 19)
  (.seq (.ops false [⟨none,[.mov (some 2) (.k (.int .i64 3))]⟩]) <|
  .ret)
  (.skip)) <|
 .seq (.seq (.ops false [⟨none,[.mov (some 3) (.k (.int .i64 0))]⟩]) <|
 .block 0 <|
  .loop <|
   .seq (.seq (.ops false [⟨none,[.mov (some 20) (.t 3),.fadr (some 21) 9 (.t 1),.load (some 22) false 1 false (.t 21),.len (some 23) false (.t 22),.bin (some 24) .lss (.t 20) (.t 23)]⟩]) <|
   .cond (.t 24)
    (.skip)
    (.exit 0)) <|
   .seq (.block 1 <|
    .seq (.ops false [⟨none,[.fadr (some 27) 9 (.t 1),.load (some 28) false 1 false (.t 27),.mov (some 29) (.t 3),.iadr (some 30) 6 (.t 28) (.t 29),.fadr (some 31) 3 (.t 30),.load (some 32) false 1 false (.t 31),.len (some 33) true (.t 32),.bin (some 34) .gtr (.t 33) (.k (.int .i64 8192)),.mov (some 35) (.t 34)]⟩,
     ⟨some (35,false),[.fadr (some 36) 9 (.t 1),.load (some 37) false 1 false (.t 36),.mov (some 38) (.t 3),.iadr (some 39) 6 (.t 37) (.t 38),.fadr (some 40) 2 (.t 39),.load (some 41) false 1 false (.t 40),.len (some 42) true (.t 41),.bin (some 43) .gtr (.t 42) (.k (.int .i64 200))]⟩,
     ⟨none,[.pick (some 44) (.t 35) (.k (.bool true)) (.t 43)]⟩]) <|
    .cond (.t 44)
     (.seq (.ops false [⟨none,[.mov (some 2) (.k (.int .i64 3))]⟩]) <|
     .ret)
     (.skip)) <|
   .ops false [⟨none,[.mov (some 25) (.t 3),.bin (some 26) .add (.t 25) (.k (.int .i64 1)),.mov (some 3) (.t 26)]⟩]) <|
 .seq (.ops false [⟨none,[.mov (some 2) (.k (.int .i64 0))]⟩]) <|
 .ret
def e44:C :=
 .seq (.ops false [⟨none,[.box 3 29 (.t 0),.box 4 57 (.t 1),.alloc 6 29 [(.int .i64 0),(.int .i64 0),.nils,.nils,.nils,(.int .i64 0),.nils,.nils],.mov (some 7) (.k (.int .i64 0))]⟩]) <|
 .seq (.seq (.ops false [⟨none,[.fadr (some 8) 0 (.t 4),.load (some 9) false 1 false (.t 8)]⟩]) <|
 .block 0 <|
  .seq (.ops false [⟨none,[.bin (some 11) .eql (.t 9) (.k (.int .i64 1)),.mov (some 10) (.t 11)]⟩]) <|
  .cond (.t 10)
   (.seq (.ops false [⟨none,[.load (some 12) false 8 true (.t 3),.load (some 13) false 10 true (.t 4),.mov (some 14) (.t 2),.call (some 15) true 73 [(.t 12),(.t 13),(.t 14)],.ext (some 16) 0 (.t 15),.ext (some 17) 1 (.t 15),.store 8 (.t 6) (.t 16),.mov (some 7) (.t 17)]⟩]) <|
   .ret)
   (.seq (.ops false [⟨none,[.bin (some 19) .eql (.t 9) (.k (.int .i64 2)),.mov (some 18) (.t 19)]⟩]) <|
   .cond (.t 18)
    (.seq (.ops false [⟨none,[.load (some 20) false 8 true (.t 3),.load (some 21) false 10 true (.t 4),.call (some 22) true 74 [(.t 20),(.t 21)],.ext (some 23) 0 (.t 22),.ext (some 24) 1 (.t 22),.store 8 (.t 6) (.t 23),.mov (some 7) (.t 24)]⟩]) <|
    .ret)
    (.seq (.ops false [⟨none,[.bin (some 26) .eql (.t 9) (.k (.int .i64 3)),.mov (some 25) (.t 26)]⟩]) <|
    .cond (.t 25)
     (.seq (.ops false [⟨none,[.load (some 27) false 8 true (.t 3),.load (some 28) false 10 true (.t 4),.call (some 29) true 75 [(.t 27),(.t 28)],.ext (some 30) 0 (.t 29),.ext (some 31) 1 (.t 29),.store 8 (.t 6) (.t 30),.mov (some 7) (.t 31)]⟩]) <|
     .ret)
     (.seq (.ops false [⟨none,[.bin (some 33) .eql (.t 9) (.k (.int .i64 4)),.mov (some 32) (.t 33)]⟩]) <|
     .cond (.t 32)
      (.seq (.ops false [⟨none,[.load (some 34) false 8 true (.t 3),.load (some 35) false 10 true (.t 4),.mov (some 36) (.t 2),.call (some 37) true 76 [(.t 34),(.t 35),(.t 36)],.ext (some 38) 0 (.t 37),.ext (some 39) 1 (.t 37),.store 8 (.t 6) (.t 38),.mov (some 7) (.t 39)]⟩]) <|
      .ret)
      (.seq (.ops false [⟨none,[.bin (some 41) .eql (.t 9) (.k (.int .i64 5)),.mov (some 40) (.t 41)]⟩]) <|
      .cond (.t 40)
       (.seq (.ops false [⟨none,[.load (some 42) false 8 true (.t 3),.load (some 43) false 10 true (.t 4),.mov (some 44) (.t 2),.call (some 45) true 77 [(.t 42),(.t 43),(.t 44)],.ext (some 46) 0 (.t 45),.ext (some 47) 1 (.t 45),.store 8 (.t 6) (.t 46),.mov (some 7) (.t 47)]⟩]) <|
       .ret)
       (.seq (.ops false [⟨none,[.bin (some 49) .eql (.t 9) (.k (.int .i64 6)),.mov (some 48) (.t 49)]⟩]) <|
       .cond (.t 48)
        (.seq (.seq (.ops false [⟨none,[.fadr (some 50) 8 (.t 4),.load (some 51) false 1 false (.t 50),.fadr (some 52) 1 (.t 3),.load (some 53) false 1 false (.t 52),.bin (some 54) .sub (.k (.int .i64 52595999)) (.t 53),.bin (some 55) .gtr (.t 51) (.t 54)]⟩]) <|
        .cond (.t 55)
         (.seq (.ops false [⟨none,[.load (some 56) false 8 true (.t 3),.store 8 (.t 6) (.t 56),.mov (some 7) (.k (.int .i64 2))]⟩]) <|
         .ret)
         (.skip)) <|
        .seq (.ops false [⟨none,[.fadr (some 57) 1 (.t 3),.load (some 58) false 1 false (.t 57),.fadr (some 59) 8 (.t 4),.load (some 60) false 1 false (.t 59),.bin (some 61) .add (.t 58) (.t 60),.fadr (some 62) 1 (.t 3),.store 1 (.t 62) (.t 61)]⟩]) <|
        .seq (.ops false [⟨none,[.load (some 63) false 8 true (.t 3),.store 8 (.t 6) (.t 63),.mov (some 7) (.k (.int .i64 0))]⟩]) <|
        .ret)
        (.seq (.seq (.ops false [⟨none,[.bin (some 65) .eql (.t 9) (.k (.int .i64 7)),.mov (some 64) (.t 65)]⟩]) <|
        .cond (.t 64)
         (.skip)
         (.ops false [⟨none,[.bin (some 66) .eql (.t 9) (.k (.int .i64 8)),.mov (some 64) (.t 66)]⟩])) <|
        .cond (.t 64)
         (.seq (.ops false [⟨none,[.load (some 67) false 8 true (.t 3),.load (some 68) false 10 true (.t 4),.call (some 69) true 78 [(.t 67),(.t 68)],.ext (some 70) 0 (.t 69),.ext (some 71) 1 (.t 69),.store 8 (.t 6) (.t 70),.mov (some 7) (.t 71)]⟩]) <|
         .ret)
         (.seq (.ops false [⟨none,[.bin (some 73) .eql (.t 9) (.k (.int .i64 9)),.mov (some 72) (.t 73)]⟩]) <|
         .cond (.t 72)
          (.seq (.ops false [⟨none,[.load (some 74) false 8 true (.t 3),.load (some 75) false 10 true (.t 4),.call (some 76) true 79 [(.t 74),(.t 75)],.ext (some 77) 0 (.t 76),.ext (some 78) 1 (.t 76),.store 8 (.t 6) (.t 77),.mov (some 7) (.t 78)]⟩]) <|
          .ret)
          (.skip))))))))) <|
 .seq (.ops false [⟨none,[.load (some 79) false 8 true (.t 3),.load (some 80) false 10 true (.t 4),.call (some 81) true 80 [(.t 79),(.t 80)],.ext (some 82) 0 (.t 81),.ext (some 83) 1 (.t 81),.store 8 (.t 6) (.t 82),.mov (some 7) (.t 83)]⟩]) <|
 .ret
def e45:C :=
 .seq (.ops false [⟨none,[.box 1 57 (.t 0),.mov (some 2) (.k (.bool false))]⟩]) <|
 .seq (.seq (.ops false [⟨none,[.fadr (some 6) 0 (.t 1),.load (some 7) false 1 false (.t 6)]⟩]) <|
 .block 0 <|
  .seq (.ops false [⟨none,[.bin (some 9) .eql (.t 7) (.k (.int .i64 1)),.mov (some 8) (.t 9)]⟩]) <|
  .cond (.t 8)
   (.seq (.seq (.ops true [⟨none,[.fadr (some 10) 3 (.t 1),.load (some 11) false 2 true (.t 10),.call (some 12) true 81 [],.eqA (some 13) true [0,1] (.t 11) (.t 12)]⟩]) <|
   .cond (.t 13)
    (.seq (.ops false [⟨none,[.mov (some 2) (.k (.bool false))]⟩]) <|
    .ret)
    (.skip)) <|
   .seq (.ops false [⟨none,[.fadr (some 15) 7 (.t 1),.load (some 16) false 1 false (.t 15),.call (some 17) true 82 [(.t 16)],.mov (some 14) (.t 17),.ext (some 18) 0 (.t 14),.ext (some 19) 1 (.t 14),.ext (some 20) 2 (.t 14),.alloc 3 78 [.nils,.nils,.nils],.store 3 (.t 3) (.t 18),.mov (some 4) (.t 19),.mov (some 5) (.t 20)]⟩]) <|
   .seq (.ops false [⟨none,[.mov (some 21) (.t 5),.bin (some 22) .neq (.t 21) (.k (.int .i64 0)),.mov (some 2) (.t 22)]⟩]) <|
   .ret)
   (.seq (.seq (.ops false [⟨none,[.bin (some 24) .eql (.t 7) (.k (.int .i64 2)),.mov (some 23) (.t 24)]⟩]) <|
   .cond (.t 23)
    (.skip)
    (.seq (.ops false [⟨none,[.bin (some 25) .eql (.t 7) (.k (.int .i64 3)),.mov (some 23) (.t 25)]⟩]) <|
    .cond (.t 23)
     (.skip)
     (.ops false [⟨none,[.bin (some 26) .eql (.t 7) (.k (.int .i64 5)),.mov (some 23) (.t 26)]⟩]))) <|
   .cond (.t 23)
    (.seq (.ops true [⟨none,[.fadr (some 27) 3 (.t 1),.load (some 28) false 2 true (.t 27),.call (some 29) true 81 [],.eqA (some 30) false [0,1] (.t 28) (.t 29),.mov (some 2) (.t 30)]⟩]) <|
    .ret)
    (.seq (.ops false [⟨none,[.bin (some 32) .eql (.t 7) (.k (.int .i64 4)),.mov (some 31) (.t 32)]⟩]) <|
    .cond (.t 31)
     (.seq (.ops true [⟨none,[.fadr (some 33) 3 (.t 1),.load (some 34) false 2 true (.t 33),.call (some 35) true 81 [],.eqA (some 36) false [0,1] (.t 34) (.t 35),.mov (some 37) (.t 36)]⟩,
      ⟨some (37,false),[.fadr (some 38) 5 (.t 1),.load (some 39) false 2 true (.t 38),.call (some 40) true 81 [],.eqA (some 41) false [0,1] (.t 39) (.t 40)]⟩,
      ⟨none,[.pick (some 42) (.t 37) (.k (.bool true)) (.t 41),.mov (some 2) (.t 42)]⟩]) <|
     .ret)
     (.skip)))) <|
 .seq (.ops false [⟨none,[.mov (some 2) (.k (.bool false))]⟩]) <|
 .ret
def e46:C :=
 .seq (.ops false [⟨none,[.box 3 29 (.t 0),.alloc 6 29 [(.int .i64 0),(.int .i64 0),.nils,.nils,.nils,(.int .i64 0),.nils,.nils],.mov (some 7) (.k (.int .i64 0))]⟩]) <|
 .seq (.seq (.ops false [⟨none,[.mov (some 11) (.t 1),.bin (some 12) .eql (.t 11) (.k (.str []))]⟩]) <|
 .cond (.t 12)
  (.seq (.ops false [⟨none,[.load (some 13) false 8 true (.t 3),.store 8 (.t 6) (.t 13),.mov (some 7) (.k (.int .i64 0))]⟩]) <|
  .ret)
  (.skip)) <|
 .seq (.ops false [⟨none,[.mov (some 8) (.k .nils)]⟩]) <|
 .seq (.ops false [⟨none,[.mov (some 9) (.k (.int .i64 0))]⟩]) <|
 .seq (.block 0 <|
  .loop <|
   .seq (.seq (.ops false [⟨none,[.mov (some 14) (.t 9),.fadr (some 15) 7 (.t 3),.load (some 16) false 1 false (.t 15),.len (some 17) false (.t 16),.bin (some 18) .lss (.t 14) (.t 17),.mov (some 19) (.t 18)]⟩,
    ⟨some (19,true),[.fadr (some 20) 7 (.t 3),.load (some 21) false 1 false (.t 20),.mov (some 22) (.t 9),.iadr (some 23) 2 (.t 21) (.t 22),.fadr (some 24) 0 (.t 23),.load (some 25) false 1 false (.t 24),.mov (some 26) (.t 1),.bin (some 27) .lss (.t 25) (.t 26)]⟩,
    ⟨none,[.pick (some 28) (.t 19) (.t 27) (.k (.bool false))]⟩]) <|
   .cond (.t 28)
    (.skip)
    (.exit 0)) <|
   .block 1 <|
    .seq (.ops false [⟨none,[.mov (some 29) (.t 8),.fadr (some 30) 7 (.t 3),.load (some 31) false 1 false (.t 30),.mov (some 32) (.t 9),.iadr (some 33) 2 (.t 31) (.t 32),.load (some 34) false 2 true (.t 33),.mkl (some 35) 2 [(.t 34)],.app 36 162 2 (.t 29) (.t 35),.mov (some 8) (.t 36)]⟩]) <|
    .ops false [⟨none,[.mov (some 37) (.t 9),.bin (some 38) .add (.t 37) (.k (.int .i64 1)),.mov (some 9) (.t 38)]⟩]) <|
 .seq (.ops false [⟨none,[.mov (some 39) (.t 9),.fadr (some 40) 7 (.t 3),.load (some 41) false 1 false (.t 40),.len (some 42) false (.t 41),.bin (some 43) .lss (.t 39) (.t 42),.mov (some 44) (.t 43)]⟩,
  ⟨some (44,true),[.fadr (some 45) 7 (.t 3),.load (some 46) false 1 false (.t 45),.mov (some 47) (.t 9),.iadr (some 48) 2 (.t 46) (.t 47),.fadr (some 49) 0 (.t 48),.load (some 50) false 1 false (.t 49),.mov (some 51) (.t 1),.bin (some 52) .eql (.t 50) (.t 51)]⟩,
  ⟨none,[.pick (some 53) (.t 44) (.t 52) (.k (.bool false)),.mov (some 10) (.t 53)]⟩]) <|
 .seq (.seq (.ops false [⟨none,[.mov (some 54) (.t 10),.un (some 55) .not (.t 54),.mov (some 56) (.t 55)]⟩,
  ⟨some (56,true),[.fadr (some 57) 7 (.t 3),.load (some 58) false 1 false (.t 57),.len (some 59) false (.t 58),.bin (some 60) .geq (.t 59) (.k (.int .i64 60))]⟩,
  ⟨none,[.pick (some 61) (.t 56) (.t 60) (.k (.bool false))]⟩]) <|
 .cond (.t 61)
  (.seq (.ops false [⟨none,[.load (some 62) false 8 true (.t 3),.store 8 (.t 6) (.t 62),.mov (some 7) (.k (.int .i64 8))]⟩]) <|
  .ret)
  (.skip)) <|
 .seq (.ops false [⟨none,[.mov (some 63) (.t 8),.mov (some 64) (.t 1),.mov (some 65) (.t 2),.build (some 66) [(.str []),(.int .i64 0)] [(0,1,(.t 64)),(1,1,(.t 65))],.mkl (some 67) 2 [(.t 66)],.app 68 162 2 (.t 63) (.t 67),.mov (some 8) (.t 68)]⟩]) <|
 .seq (.seq (.ops false [⟨none,[.mov (some 69) (.t 10)]⟩]) <|
 .cond (.t 69)
  (.ops false [⟨none,[.mov (some 70) (.t 9),.bin (some 71) .add (.t 70) (.k (.int .i64 1)),.mov (some 9) (.t 71)]⟩])
  (.skip)) <|
 .seq (.ops false [⟨none,[.mov (some 72) (.t 8),.fadr (some 73) 7 (.t 3),.load (some 74) false 1 false (.t 73),.mov (some 75) (.t 9),.slc (some 76) 2 (.t 74) (some (.t 75)) none,.app 77 162 2 (.t 72) (.t 76),.fadr (some 78) 7 (.t 3),.store 1 (.t 78) (.t 77)]⟩]) <|
 .seq (.ops false [⟨none,[.load (some 79) false 8 true (.t 3),.store 8 (.t 6) (.t 79),.mov (some 7) (.k (.int .i64 0))]⟩]) <|
 .ret
def e47:C :=
 .seq (.ops false [⟨none,[.box 3 29 (.t 0),.alloc 6 120 [(.int .i64 0),(.str []),(.str []),(.int .i64 0),(.str []),(.int .i64 0),(.str []),(.int .i64 0)],.mov (some 7) (.k (.int .i64 0))]⟩]) <|
 .seq (.seq (.ops false [⟨none,[.mov (some 10) (.t 1),.call (some 11) true 25 [(.t 10)],.un (some 12) .not (.t 11)]⟩]) <|
 .cond (.t 12)
  (.seq (.ops false [⟨none,[.build (some 13) [(.int .i64 0),(.str []),(.str []),(.int .i64 0),(.str []),(.int .i64 0),(.str []),(.int .i64 0)] [],.store 8 (.t 6) (.t 13),.mov (some 7) (.k (.int .i64 2))]⟩]) <|
  .ret)
  (.skip)) <|
 .seq (.seq (.ops false [⟨none,[.load (some 14) false 8 true (.t 3),.mov (some 15) (.t 1),.call (some 16) true 83 [(.t 14),(.t 15)],.len (some 17) false (.t 16),.mov (some 18) (.k (.int .i64 0))]⟩]) <|
 .block 0 <|
  .loop <|
   .seq (.ops false [⟨none,[.bin (some 19) .lss (.t 18) (.t 17)]⟩]) <|
   .seq (.cond (.t 19)
    (.skip)
    (.exit 0)) <|
   .seq (.block 1 <|
    .seq (.ops false [⟨none,[.iadr (some 20) 8 (.t 16) (.t 18),.load (some 21) false 8 true (.t 20),.alloc 9 120 [(.int .i64 0),(.str []),(.str []),(.int .i64 0),(.str []),(.int .i64 0),(.str []),(.int .i64 0)],.store 8 (.t 9) (.t 21)]⟩]) <|
    .seq (.ops false [⟨none,[.fadr (some 22) 0 (.t 9),.load (some 23) false 1 false (.t 22),.mov (some 24) (.t 2),.bin (some 25) .eql (.t 23) (.t 24)]⟩]) <|
    .cond (.t 25)
     (.seq (.ops false [⟨none,[.load (some 26) false 8 true (.t 9),.store 8 (.t 6) (.t 26),.mov (some 7) (.k (.int .i64 0))]⟩]) <|
     .ret)
     (.skip)) <|
   .ops false [⟨none,[.bin (some 27) .add (.t 18) (.k (.int .i64 1)),.mov (some 18) (.t 27)]⟩]) <|
 .seq (.ops false [⟨none,[.build (some 28) [(.int .i64 0),(.str []),(.str []),(.int .i64 0),(.str []),(.int .i64 0),(.str []),(.int .i64 0)] [],.store 8 (.t 6) (.t 28),.mov (some 7) (.k (.int .i64 4))]⟩]) <|
 .ret
def e48:C :=
 .seq (.ops false [⟨none,[.box 3 41 (.t 1),.mov (some 4) (.k (.int .i64 0))]⟩]) <|
 .seq (.seq (.ops false [⟨none,[.mov (some 5) (.k (.int .i64 0))]⟩]) <|
 .block 0 <|
  .loop <|
   .seq (.seq (.ops false [⟨none,[.mov (some 6) (.t 5),.mov (some 7) (.t 0),.len (some 8) false (.t 7),.bin (some 9) .lss (.t 6) (.t 8)]⟩]) <|
   .cond (.t 9)
    (.skip)
    (.exit 0)) <|
   .seq (.block 1 <|
    .seq (.ops true [⟨none,[.mov (some 12) (.t 0),.mov (some 13) (.t 5),.iadr (some 14) 3 (.t 12) (.t 13),.fadr (some 15) 0 (.t 14),.load (some 16) false 2 true (.t 15),.load (some 17) false 2 true (.t 3),.eqA (some 18) false [0,1] (.t 16) (.t 17)]⟩]) <|
    .cond (.t 18)
     (.seq (.ops false [⟨none,[.mov (some 19) (.t 5),.mov (some 4) (.t 19)]⟩]) <|
     .ret)
     (.skip)) <|
   .ops false [⟨none,[.mov (some 10) (.t 5),.bin (some 11) .add (.t 10) (.k (.int .i64 1)),.mov (some 5) (.t 11)]⟩]) <|
 .seq (.ops false [⟨none,[.mov (some 4) (.k (.int .i64 (-1)))]⟩]) <|
 .ret
def e49:C :=
 .seq (.ops false [⟨none,[.box 2 78 (.t 0),.box 3 9 (.t 1),.mov (some 4) (.k .nils)]⟩]) <|
 .seq (.ops false [⟨none,[.mkv 10 9 1 [(.k (.str [97,108,108]))],.alloc 5 32 [.nils],.store 1 (.t 5) (.t 10)]⟩]) <|
 .seq (.ops false [⟨none,[.load (some 11) false 1 false (.t 3),.call (some 12) true 53 [(.t 11)],.alloc 6 4 [(.bool false)],.store 1 (.t 6) (.t 12)]⟩]) <|
 .seq (.seq (.ops false [⟨none,[.load (some 13) false 1 false (.t 6)]⟩]) <|
 .cond (.t 13)
  (.ops false [⟨none,[.load (some 14) false 1 false (.t 5),.mkl (some 15) 1 [(.k (.str [117,115,101,114,115]))],.app 16 9 1 (.t 14) (.t 15),.store 1 (.t 5) (.t 16)]⟩])
  (.skip)) <|
 .seq (.seq (.ops false [⟨none,[.mov (some 7) (.k (.bool true))]⟩]) <|
 .block 0 <|
  .loop <|
   .seq (.seq (.ops false [⟨none,[.mov (some 17) (.t 7)]⟩]) <|
   .cond (.t 17)
    (.skip)
    (.exit 0)) <|
   .block 1 <|
    .seq (.ops false [⟨none,[.mov (some 7) (.k (.bool false))]⟩]) <|
    .seq (.ops false [⟨none,[.fadr (some 18) 0 (.t 2),.load (some 19) false 1 false (.t 18),.len (some 20) false (.t 19),.mov (some 21) (.k (.int .i64 0))]⟩]) <|
    .block 2 <|
     .loop <|
      .seq (.ops false [⟨none,[.bin (some 22) .lss (.t 21) (.t 20)]⟩]) <|
      .seq (.cond (.t 22)
       (.skip)
       (.exit 2)) <|
      .seq (.block 3 <|
       .seq (.ops false [⟨none,[.iadr (some 23) 2 (.t 19) (.t 21),.load (some 24) false 2 true (.t 23),.alloc 9 165 [(.str []),.nils],.store 2 (.t 9) (.t 24)]⟩]) <|
       .seq (.seq (.ops false [⟨none,[.load (some 25) false 1 false (.t 5),.fadr (some 26) 0 (.t 9),.load (some 27) false 1 false (.t 26),.call (some 28) false 84 [(.t 25),(.t 27)]]⟩]) <|
       .cond (.t 28)
        (.exit 3)
        (.skip)) <|
       .seq (.ops false [⟨none,[.fadr (some 29) 1 (.t 9),.load (some 30) false 1 false (.t 29),.clos (some 31) 86 [(.t 6),(.t 3),(.t 5)],.call (some 32) false 85 [(.t 30),(.t 31)]]⟩]) <|
       .cond (.t 32)
        (.seq (.ops false [⟨none,[.load (some 33) false 1 false (.t 5),.fadr (some 34) 0 (.t 9),.load (some 35) false 1 false (.t 34),.mkl (some 36) 1 [(.t 35)],.app 37 9 1 (.t 33) (.t 36),.store 1 (.t 5) (.t 37)]⟩]) <|
        .ops false [⟨none,[.mov (some 7) (.k (.bool true))]⟩])
        (.skip)) <|
      .ops false [⟨none,[.bin (some 38) .add (.t 21) (.k (.int .i64 1)),.mov (some 21) (.t 38)]⟩]) <|
 .seq (.ops false [⟨none,[.load (some 39) false 1 false (.t 5),.ecall (some 40) 42 87 [(.t 39)]]⟩]) <|
 .seq (.ops false [⟨none,[.load (some 41) false 1 false (.t 5),.mov (some 4) (.t 41)]⟩]) <|
 .ret
def e50:C :=
 .seq (.ops false [⟨none,[.mov (some 2) (.k (.bool false))]⟩]) <|
 .seq (.seq (.ops false [⟨none,[.mov (some 3) (.k (.int .i64 0))]⟩]) <|
 .block 0 <|
  .loop <|
   .seq (.seq (.ops false [⟨none,[.mov (some 5) (.t 3),.mov (some 6) (.t 0),.len (some 7) true (.t 6),.bin (some 8) .lss (.t 5) (.t 7)]⟩]) <|
   .cond (.t 8)
    (.skip)
    (.exit 0)) <|
   .seq (.block 1 <|
    .seq (.ops false [⟨none,[.mov (some 11) (.t 0),.mov (some 12) (.t 3),.idx (some 13) (.t 11) (.t 12),.mov (some 4) (.t 13)]⟩]) <|
    .seq (.ops false [⟨none,[.mov (some 14) (.t 4),.bin (some 15) .lss (.t 14) (.k (.int .u8 32)),.mov (some 16) (.t 15)]⟩,
     ⟨some (16,false),[.mov (some 17) (.t 4),.bin (some 18) .eql (.t 17) (.k (.int .u8 127))]⟩,
     ⟨none,[.pick (some 19) (.t 16) (.k (.bool true)) (.t 18),.mov (some 20) (.t 19)]⟩,
     ⟨some (20,false),[.mov (some 21) (.t 4),.call (some 22) true 88 [(.k (.str [60,62,91,93,123,125,124,35,95])),(.t 21)],.bin (some 23) .geq (.t 22) (.k (.int .i64 0))]⟩,
     ⟨none,[.pick (some 24) (.t 20) (.k (.bool true)) (.t 23),.mov (some 25) (.t 24)]⟩,
     ⟨some (25,false),[.mov (some 26) (.t 4),.bin (some 27) .eql (.t 26) (.k (.int .u8 32)),.mov (some 28) (.t 27)]⟩,
     ⟨some (28,true),[.mov (some 29) (.t 3),.bin (some 30) .gtr (.t 29) (.k (.int .i64 0))]⟩,
     ⟨some (25,false),[.pick (some 31) (.t 28) (.t 30) (.k (.bool false)),.mov (some 32) (.t 31)]⟩,
     ⟨some (32,true),[.mov (some 33) (.t 0),.mov (some 34) (.t 3),.bin (some 35) .sub (.t 34) (.k (.int .i64 1)),.idx (some 36) (.t 33) (.t 35),.bin (some 37) .eql (.t 36) (.k (.int .u8 32))]⟩,
     ⟨some (25,false),[.pick (some 38) (.t 32) (.t 37) (.k (.bool false))]⟩,
     ⟨none,[.pick (some 39) (.t 25) (.k (.bool true)) (.t 38)]⟩]) <|
    .cond (.t 39)
     (.seq (.ops false [⟨none,[.mov (some 2) (.k (.bool false))]⟩]) <|
     .ret)
     (.skip)) <|
   .ops false [⟨none,[.mov (some 9) (.t 3),.bin (some 10) .add (.t 9) (.k (.int .i64 1)),.mov (some 3) (.t 10)]⟩]) <|
 .seq (.ops false [⟨none,[.mov (some 2) (.k (.bool true))]⟩]) <|
 .ret
def e52:C :=
 .seq (.ops false [⟨none,[.mov (some 2) (.k (.int .i64 0)),.mov (some 3) (.k (.str [])),.mov (some 4) (.k (.bool false))]⟩]) <|
 .seq (.ops false [⟨none,[.mov (some 12) (.t 0),.call (some 13) true 90 [(.t 12),(.k (.str [58]))],.mov (some 11) (.t 13),.ext (some 14) 0 (.t 11),.ext (some 15) 1 (.t 11),.ext (some 16) 2 (.t 11),.mov (some 5) (.t 14),.mov (some 6) (.t 15),.mov (some 7) (.t 16)]⟩]) <|
 .seq (.seq (.ops false [⟨none,[.mov (some 17) (.t 7),.un (some 18) .not (.t 17)]⟩]) <|
 .cond (.t 18)
  (.seq (.ops false [⟨none,[.mov (some 2) (.k (.int .i64 0)),.mov (some 3) (.k (.str [])),.mov (some 4) (.k (.bool false))]⟩]) <|
  .ret)
  (.skip)) <|
 .seq (.ops false [⟨none,[.mov (some 19) (.t 5),.call (some 20) true 92 [(.t 19),(.k (.str [32]))],.call (some 21) true 91 [(.t 20)],.mov (some 8) (.t 21)]⟩]) <|
 .seq (.seq (.ops false [⟨none,[.call (some 22) true 93 [],.mov (some 23) (.k (.int .i64 0))]⟩]) <|
 .block 0 <|
  .loop <|
   .seq (.ops false [⟨none,[.bin (some 24) .lss (.t 23) (.k (.int .i64 6))]⟩]) <|
   .seq (.cond (.t 24)
    (.skip)
    (.exit 0)) <|
   .seq (.block 1 <|
    .seq (.ops false [⟨none,[.mov (some 25) (.t 23),.idxA (some 26) 6 1 false (.t 22) (.t 23),.mov (some 9) (.t 25),.mov (some 10) (.t 26)]⟩]) <|
    .seq (.ops false [⟨none,[.mov (some 27) (.t 9),.bin (some 28) .neq (.t 27) (.k (.int .i64 0)),.mov (some 29) (.t 28)]⟩,
     ⟨some (29,true),[.mov (some 30) (.t 8),.mov (some 31) (.t 10),.call (some 32) true 91 [(.t 31)],.bin (some 33) .eql (.t 30) (.t 32)]⟩,
     ⟨none,[.pick (some 34) (.t 29) (.t 33) (.k (.bool false))]⟩]) <|
    .cond (.t 34)
     (.seq (.ops false [⟨none,[.mov (some 35) (.t 9),.mov (some 36) (.t 6),.mov (some 2) (.t 35),.mov (some 3) (.t 36),.mov (some 4) (.k (.bool true))]⟩]) <|
     .ret)
     (.skip)) <|
   .ops false [⟨none,[.bin (some 37) .add (.t 23) (.k (.int .i64 1)),.mov (some 23) (.t 37)]⟩]) <|
 .seq (.ops false [⟨none,[.mov (some 2) (.k (.int .i64 0)),.mov (some 3) (.k (.str [])),.mov (some 4) (.k (.bool false))]⟩]) <|
 .ret
def e53:C :=
 .seq (.ops false [⟨none,[.mov (some 2) (.k (.bool false))]⟩]) <|
 .seq (.seq (.ops false [⟨none,[.mov (some 5) (.t 0),.len (some 6) true (.t 5),.bin (some 7) .lss (.t 6) (.k (.int .i64 1)),.mov (some 8) (.t 7)]⟩,
  ⟨some (8,false),[.mov (some 9) (.t 0),.len (some 10) true (.t 9),.bin (some 11) .gtr (.t 10) (.k (.int .i64 30))]⟩,
  ⟨none,[.pick (some 12) (.t 8) (.k (.bool true)) (.t 11),.mov (some 13) (.t 12)]⟩,
  ⟨some (13,false),[.mov (some 14) (.t 0),.idx (some 15) (.t 14) (.k (.int .i64 0)),.bin (some 16) .lss (.t 15) (.k (.int .u8 97))]⟩,
  ⟨none,[.pick (some 17) (.t 13) (.k (.bool true)) (.t 16),.mov (some 18) (.t 17)]⟩,
  ⟨some (18,false),[.mov (some 19) (.t 0),.idx (some 20) (.t 19) (.k (.int .i64 0)),.bin (some 21) .gtr (.t 20) (.k (.int .u8 122))]⟩,
  ⟨none,[.pick (some 22) (.t 18) (.k (.bool true)) (.t 21)]⟩]) <|
 .cond (.t 22)
  (.seq (.ops false [⟨none,[.mov (some 2) (.k (.bool false))]⟩]) <|
  .ret)
  (.skip)) <|
 .seq (.seq (.ops false [⟨none,[.mov (some 23) (.t 0),.len (some 24) true (.t 23),.mov (some 25) (.k (.int .i64 0))]⟩]) <|
 .block 0 <|
  .loop <|
   .seq (.ops false [⟨none,[.bin (some 26) .lss (.t 25) (.t 24)]⟩]) <|
   .seq (.cond (.t 26)
    (.skip)
    (.exit 0)) <|
   .seq (.block 1 <|
    .seq (.ops false [⟨none,[.mov (some 27) (.t 25),.mov (some 3) (.t 27)]⟩]) <|
    .seq (.ops false [⟨none,[.mov (some 28) (.t 0),.mov (some 29) (.t 3),.idx (some 30) (.t 28) (.t 29),.mov (some 4) (.t 30)]⟩]) <|
    .seq (.ops false [⟨none,[.mov (some 31) (.t 4),.bin (some 32) .lss (.t 31) (.k (.int .u8 97)),.mov (some 33) (.t 32)]⟩,
     ⟨some (33,false),[.mov (some 34) (.t 4),.bin (some 35) .gtr (.t 34) (.k (.int .u8 122))]⟩,
     ⟨none,[.pick (some 36) (.t 33) (.k (.bool true)) (.t 35),.mov (some 37) (.t 36)]⟩,
     ⟨some (37,true),[.mov (some 38) (.t 4),.bin (some 39) .lss (.t 38) (.k (.int .u8 48)),.mov (some 40) (.t 39)]⟩,
     ⟨some (40,false),[.mov (some 41) (.t 4),.bin (some 42) .gtr (.t 41) (.k (.int .u8 57))]⟩,
     ⟨some (37,true),[.pick (some 43) (.t 40) (.k (.bool true)) (.t 42)]⟩,
     ⟨none,[.pick (some 44) (.t 37) (.t 43) (.k (.bool false)),.mov (some 45) (.t 44)]⟩,
     ⟨some (45,true),[.mov (some 46) (.t 4),.bin (some 47) .neq (.t 46) (.k (.int .u8 45))]⟩,
     ⟨none,[.pick (some 48) (.t 45) (.t 47) (.k (.bool false)),.mov (some 49) (.t 48)]⟩,
     ⟨some (49,true),[.mov (some 50) (.t 4),.bin (some 51) .neq (.t 50) (.k (.int .u8 95))]⟩,
     ⟨none,[.pick (some 52) (.t 49) (.t 51) (.k (.bool false))]⟩]) <|
    .cond (.t 52)
     (.seq (.ops false [⟨none,[.mov (some 2) (.k (.bool false))]⟩]) <|
     .ret)
     (.skip)) <|
   .ops false [⟨none,[.bin (some 53) .add (.t 25) (.k (.int .i64 1)),.mov (some 25) (.t 53)]⟩]) <|
 .seq (.ops false [⟨none,[.mov (some 2) (.k (.bool true))]⟩]) <|
 .ret
def e54:C :=
 .seq (.ops false [⟨none,[.box 4 78 (.t 0),.box 7 41 (.t 3),.mov (some 8) (.k (.bool false))]⟩]) <|
 .seq (.seq (.ops false [⟨none,[.load (some 15) false 2 true (.t 7),.call (some 16) true 24 [(.t 15)],.un (some 17) .not (.t 16),.mov (some 18) (.t 17)]⟩,
  ⟨some (18,false),[.mov (some 19) (.t 2),.bin (some 20) .lss (.t 19) (.k (.int .i64 1))]⟩,
  ⟨none,[.pick (some 21) (.t 18) (.k (.bool true)) (.t 20),.mov (some 22) (.t 21)]⟩,
  ⟨some (22,false),[.mov (some 23) (.t 2),.bin (some 24) .gtr (.t 23) (.k (.int .i64 5))]⟩,
  ⟨none,[.pick (some 25) (.t 22) (.k (.bool true)) (.t 24)]⟩]) <|
 .cond (.t 25)
  (.seq (.ops false [⟨none,[.mov (some 8) (.k (.bool false))]⟩]) <|
  .ret)
  (.skip)) <|
 .seq (.seq (.ops false [⟨none,[.load (some 26) false 2 true (.t 7),.call (some 27) true 94 [(.t 26)],.len (some 28) false (.t 27),.mov (some 29) (.k (.int .i64 0))]⟩]) <|
 .block 0 <|
  .loop <|
   .seq (.ops false [⟨none,[.bin (some 30) .lss (.t 29) (.t 28)]⟩]) <|
   .seq (.cond (.t 30)
    (.skip)
    (.exit 0)) <|
   .seq (.block 1 <|
    .seq (.ops false [⟨none,[.iadr (some 31) 3 (.t 27) (.t 29),.load (some 32) false 3 true (.t 31),.alloc 10 179 [(.int .i64 0),(.int .i64 0),(.str [])],.store 3 (.t 10) (.t 32)]⟩]) <|
    .seq (.ops false [⟨none,[.mov (some 11) (.k (.bool false)),.mov (some 12) (.k (.bool true))]⟩]) <|
    .seq (.seq (.ops false [⟨none,[.fadr (some 33) 1 (.t 4),.load (some 34) false 1 false (.t 33),.len (some 35) false (.t 34),.mov (some 36) (.k (.int .i64 0))]⟩]) <|
    .block 2 <|
     .loop <|
      .seq (.ops false [⟨none,[.bin (some 37) .lss (.t 36) (.t 35)]⟩]) <|
      .seq (.cond (.t 37)
       (.skip)
       (.exit 2)) <|
      .seq (.block 3 <|
       .seq (.ops false [⟨none,[.iadr (some 38) 6 (.t 34) (.t 36),.load (some 39) false 6 true (.t 38),.alloc 14 181 [(.bool false),(.int .i64 0),(.str []),(.int .i64 0),(.int .i64 0),(.str [])],.store 6 (.t 14) (.t 39)]⟩]) <|
       .seq (.ops false [⟨none,[.fadr (some 40) 1 (.t 14),.load (some 41) false 1 false (.t 40),.mov (some 42) (.t 2),.bin (some 43) .eql (.t 41) (.t 42),.mov (some 44) (.t 43)]⟩,
        ⟨some (44,true),[.mov (some 45) (.t 1),.fadr (some 46) 2 (.t 14),.load (some 47) false 1 false (.t 46),.call (some 48) true 84 [(.t 45),(.t 47)]]⟩,
        ⟨none,[.pick (some 49) (.t 44) (.t 48) (.k (.bool false)),.mov (some 50) (.t 49)]⟩,
        ⟨some (50,true),[.fadr (some 51) 3 (.t 14),.load (some 52) false 3 true (.t 51),.load (some 53) false 3 true (.t 10),.call (some 54) true 95 [(.t 52),(.t 53)]]⟩,
        ⟨none,[.pick (some 55) (.t 50) (.t 54) (.k (.bool false))]⟩]) <|
       .cond (.t 55)
        (.ops true [⟨none,[.mov (some 56) (.t 12),.mov (some 57) (.t 56)]⟩,
         ⟨some (57,true),[.fadr (some 58) 0 (.t 14),.load (some 59) false 1 false (.t 58)]⟩,
         ⟨none,[.pick (some 60) (.t 57) (.t 59) (.k (.bool false)),.mov (some 11) (.k (.bool true)),.mov (some 12) (.t 60)]⟩])
        (.skip)) <|
      .ops false [⟨none,[.bin (some 61) .add (.t 36) (.k (.int .i64 1)),.mov (some 36) (.t 61)]⟩]) <|
    .seq (.ops false [⟨none,[.mov (some 62) (.t 11)]⟩]) <|
    .cond (.t 62)
     (.seq (.ops false [⟨none,[.mov (some 63) (.t 12),.mov (some 8) (.t 63)]⟩]) <|
     .ret)
     (.skip)) <|
   .ops false [⟨none,[.bin (some 64) .add (.t 29) (.k (.int .i64 1)),.mov (some 29) (.t 64)]⟩]) <|
 .seq (.ops false [⟨none,[.mov (some 8) (.k (.bool false))]⟩]) <|
 .ret
def e55:C :=
 .seq (.ops false [⟨none,[.box 3 29 (.t 0),.box 4 41 (.t 1),.alloc 6 66 [(.int .i64 0),(.str []),(.str []),(.str []),(.int .i64 0),(.int .i64 0)],.mov (some 7) (.k (.bool false))]⟩]) <|
 .seq (.ops false [⟨none,[.load (some 13) false 8 true (.t 3),.load (some 14) false 2 true (.t 4),.ecall (some 15) 32 28 [(.t 13),(.t 14)],.mov (some 12) (.t 15),.ext (some 16) 0 (.t 12),.ext (some 17) 1 (.t 12),.alloc 8 62 [(.int .i64 0),(.str []),.nils],.store 3 (.t 8) (.t 16),.mov (some 9) (.t 17)]⟩]) <|
 .seq (.seq (.ops false [⟨none,[.fadr (some 18) 2 (.t 8),.load (some 19) false 1 false (.t 18),.len (some 20) false (.t 19),.mov (some 21) (.k (.int .i64 0))]⟩]) <|
 .block 0 <|
  .loop <|
   .seq (.ops false [⟨none,[.bin (some 22) .lss (.t 21) (.t 20)]⟩]) <|
   .seq (.cond (.t 22)
    (.skip)
    (.exit 0)) <|
   .seq (.block 1 <|
    .seq (.ops false [⟨none,[.iadr (some 23) 6 (.t 19) (.t 21),.load (some 24) false 6 true (.t 23),.alloc 11 66 [(.int .i64 0),(.str []),(.str []),(.str []),(.int .i64 0),(.int .i64 0)],.store 6 (.t 11) (.t 24)]⟩]) <|
    .seq (.ops false [⟨none,[.fadr (some 25) 0 (.t 11),.load (some 26) false 1 false (.t 25),.mov (some 27) (.t 2),.bin (some 28) .eql (.t 26) (.t 27)]⟩]) <|
    .cond (.t 28)
     (.seq (.ops false [⟨none,[.load (some 29) false 6 true (.t 11),.store 6 (.t 6) (.t 29),.mov (some 7) (.k (.bool true))]⟩]) <|
     .ret)
     (.skip)) <|
   .ops false [⟨none,[.bin (some 30) .add (.t 21) (.k (.int .i64 1)),.mov (some 21) (.t 30)]⟩]) <|
 .seq (.ops false [⟨none,[.build (some 31) [(.int .i64 0),(.str []),(.str []),(.str []),(.int .i64 0),(.int .i64 0)] [],.store 6 (.t 6) (.t 31),.mov (some 7) (.k (.bool false))]⟩]) <|
 .ret
def e57:C :=
 .seq (.ops false [⟨none,[.alloc 2 78 [.nils,.nils,.nils],.mov (some 3) (.k (.int .i64 0)),.mov (some 4) (.k (.int .i64 0))]⟩]) <|
 .seq (.seq (.ops false [⟨none,[.mov (some 9) (.t 0),.len (some 10) true (.t 9),.bin (some 11) .gtr (.t 10) (.k (.int .i64 8192))]⟩]) <|
 .cond (.t 11)
  (.seq (.ops false [⟨none,[.build (some 12) [.nils,.nils,.nils] [],.store 3 (.t 2) (.t 12),.mov (some 3) (.k (.int .i64 0)),.mov (some 4) (.k (.int .i64 3))]⟩]) <|
  .ret)
  (.skip)) <|
 .seq (.ops false [⟨none,[.alloc 5 78 [.nils,.nils,.nils]]⟩]) <|
 .seq (.seq (.ops false [⟨none,[.mov (some 13) (.t 0),.call (some 14) true 51 [(.t 13),(.k (.str [10]))],.len (some 15) false (.t 14),.mov (some 16) (.k (.int .i64 0))]⟩]) <|
 .block 0 <|
  .loop <|
   .seq (.ops false [⟨none,[.bin (some 17) .lss (.t 16) (.t 15)]⟩]) <|
   .seq (.cond (.t 17)
    (.skip)
    (.exit 0)) <|
   .seq (.block 1 <|
    .seq (.ops false [⟨none,[.mov (some 18) (.t 16),.iadr (some 19) 1 (.t 14) (.t 16),.load (some 20) false 1 false (.t 19),.mov (some 6) (.t 18),.mov (some 7) (.t 20)]⟩]) <|
    .seq (.ops false [⟨none,[.mov (some 21) (.t 7),.ecall (some 22) 35 102 [(.t 5),(.t 21)],.un (some 23) .not (.t 22)]⟩]) <|
    .cond (.t 23)
     (.seq (.ops false [⟨none,[.build (some 24) [.nils,.nils,.nils] [],.mov (some 25) (.t 6),.bin (some 26) .add (.t 25) (.k (.int .i64 1)),.store 3 (.t 2) (.t 24),.mov (some 3) (.t 26),.mov (some 4) (.k (.int .i64 1))]⟩]) <|
     .ret)
     (.skip)) <|
   .ops false [⟨none,[.bin (some 27) .add (.t 16) (.k (.int .i64 1)),.mov (some 16) (.t 27)]⟩]) <|
 .seq (.seq (.ops false [⟨none,[.load (some 28) false 3 true (.t 5),.call (some 29) false 103 [(.t 28)],.mov (some 8) (.t 29)]⟩]) <|
 .seq (.ops false [⟨none,[.mov (some 30) (.t 8),.bin (some 31) .neq (.t 30) (.k (.int .i64 0))]⟩]) <|
 .cond (.t 31)
  (.seq (.ops false [⟨none,[.build (some 32) [.nils,.nils,.nils] [],.mov (some 33) (.t 8),.store 3 (.t 2) (.t 32),.mov (some 3) (.k (.int .i64 0)),.mov (some 4) (.t 33)]⟩]) <|
  .ret)
  (.skip)) <|
 .seq (.ops false [⟨none,[.load (some 34) false 3 true (.t 5),.store 3 (.t 2) (.t 34),.mov (some 3) (.k (.int .i64 0)),.mov (some 4) (.k (.int .i64 0))]⟩]) <|
 .ret
def e58:C :=
 .seq (.ops false [⟨none,[.box 1 62 (.t 0),.alloc 2 62 [(.int .i64 0),(.str []),.nils]]⟩]) <|
 .seq (.ops false [⟨none,[.fadr (some 3) 2 (.t 1),.load (some 4) false 1 false (.t 3),.ecall (some 5) 8 104 [(.t 4)],.fadr (some 6) 2 (.t 1),.store 1 (.t 6) (.t 5)]⟩]) <|
 .seq (.ops false [⟨none,[.load (some 7) false 3 true (.t 1),.store 3 (.t 2) (.t 7)]⟩]) <|
 .ret
def e59:C :=
 .seq (.ops false [⟨none,[.box 5 78 (.t 0),.box 7 41 (.t 2),.mov (some 10) (.k (.int .i64 0))]⟩]) <|
 .seq (.ops false [⟨none,[.mov (some 11) (.k (.int .i64 1))]⟩]) <|
 .seq (.seq (.ops false [⟨none,[.fadr (some 14) 2 (.t 5),.load (some 15) false 1 false (.t 14),.len (some 16) false (.t 15),.mov (some 17) (.k (.int .i64 0))]⟩]) <|
 .block 0 <|
  .loop <|
   .seq (.ops false [⟨none,[.bin (some 18) .lss (.t 17) (.t 16)]⟩]) <|
   .seq (.cond (.t 18)
    (.skip)
    (.exit 0)) <|
   .seq (.block 1 <|
    .seq (.ops false [⟨none,[.iadr (some 19) 5 (.t 15) (.t 17),.load (some 20) false 5 true (.t 19),.alloc 13 198 [(.bool false),(.str []),(.int .i64 0),(.str []),(.str [])],.store 5 (.t 13) (.t 20)]⟩]) <|
    .seq (.seq (.ops false [⟨none,[.fadr (some 21) 2 (.t 13),.load (some 22) false 2 true (.t 21),.load (some 23) false 2 true (.t 7),.eqA (some 24) true [0,1] (.t 22) (.t 23),.mov (some 25) (.t 24)]⟩,
     ⟨some (25,false),[.mov (some 26) (.t 1),.fadr (some 27) 1 (.t 13),.load (some 28) false 1 false (.t 27),.call (some 29) true 84 [(.t 26),(.t 28)]]⟩,
     ⟨none,[.pick (some 30) (.t 25) (.k (.bool true)) (.t 29),.mov (some 31) (.t 30)]⟩,
     ⟨some (31,false),[.load (some 32) false 5 true (.t 13),.mov (some 33) (.t 3),.mov (some 34) (.t 4),.call (some 35) true 105 [(.t 32),(.t 33),(.t 34)],.un (some 36) .not (.t 35)]⟩,
     ⟨none,[.pick (some 37) (.t 31) (.k (.bool true)) (.t 36)]⟩]) <|
    .cond (.t 37)
     (.exit 1)
     (.skip)) <|
    .seq (.seq (.ops false [⟨none,[.fadr (some 38) 0 (.t 13),.load (some 39) false 1 false (.t 38)]⟩]) <|
    .cond (.t 39)
     (.seq (.ops false [⟨none,[.mov (some 10) (.k (.int .i64 3))]⟩]) <|
     .ret)
     (.skip)) <|
    .ops false [⟨none,[.mov (some 11) (.k (.int .i64 2))]⟩]) <|
   .ops false [⟨none,[.bin (some 40) .add (.t 17) (.k (.int .i64 1)),.mov (some 17) (.t 40)]⟩]) <|
 .seq (.ops false [⟨none,[.mov (some 41) (.t 11),.mov (some 10) (.t 41)]⟩]) <|
 .ret
def e66:C :=
 .seq (.ops false [⟨none,[.mov (some 2) (.k (.str []))]⟩]) <|
 .seq (.block 0 <|
  .loop <|
   .seq (.seq (.ops false [⟨none,[.mov (some 3) (.t 0),.len (some 4) true (.t 3),.bin (some 5) .gtr (.t 4) (.k (.int .i64 0)),.mov (some 6) (.t 5)]⟩,
    ⟨some (6,true),[.mov (some 7) (.t 0),.mov (some 8) (.t 0),.len (some 9) true (.t 8),.bin (some 10) .sub (.t 9) (.k (.int .i64 1)),.idx (some 11) (.t 7) (.t 10),.bin (some 12) .eql (.t 11) (.k (.int .u8 9)),.mov (some 13) (.t 12)]⟩,
    ⟨some (13,false),[.mov (some 14) (.t 0),.mov (some 15) (.t 0),.len (some 16) true (.t 15),.bin (some 17) .sub (.t 16) (.k (.int .i64 1)),.idx (some 18) (.t 14) (.t 17),.bin (some 19) .eql (.t 18) (.k (.int .u8 32))]⟩,
    ⟨some (6,true),[.pick (some 20) (.t 13) (.k (.bool true)) (.t 19)]⟩,
    ⟨none,[.pick (some 21) (.t 6) (.t 20) (.k (.bool false))]⟩]) <|
   .cond (.t 21)
    (.skip)
    (.exit 0)) <|
   .block 1 <|
    .ops false [⟨none,[.mov (some 22) (.t 0),.mov (some 23) (.t 0),.len (some 24) true (.t 23),.bin (some 25) .sub (.t 24) (.k (.int .i64 1)),.slcS (some 26) (.t 22) none (some (.t 25)),.mov (some 0) (.t 26)]⟩]) <|
 .seq (.ops false [⟨none,[.mov (some 27) (.t 0),.mov (some 2) (.t 27)]⟩]) <|
 .ret
def e67:C :=
 .seq (.ops false [⟨none,[.mov (some 2) (.k (.str []))]⟩]) <|
 .seq (.block 0 <|
  .loop <|
   .seq (.seq (.ops false [⟨none,[.mov (some 3) (.t 0),.len (some 4) true (.t 3),.bin (some 5) .gtr (.t 4) (.k (.int .i64 0)),.mov (some 6) (.t 5)]⟩,
    ⟨some (6,true),[.mov (some 7) (.t 0),.idx (some 8) (.t 7) (.k (.int .i64 0)),.bin (some 9) .eql (.t 8) (.k (.int .u8 9)),.mov (some 10) (.t 9)]⟩,
    ⟨some (10,false),[.mov (some 11) (.t 0),.idx (some 12) (.t 11) (.k (.int .i64 0)),.bin (some 13) .eql (.t 12) (.k (.int .u8 32))]⟩,
    ⟨some (6,true),[.pick (some 14) (.t 10) (.k (.bool true)) (.t 13)]⟩,
    ⟨none,[.pick (some 15) (.t 6) (.t 14) (.k (.bool false))]⟩]) <|
   .cond (.t 15)
    (.skip)
    (.exit 0)) <|
   .block 1 <|
    .ops false [⟨none,[.mov (some 16) (.t 0),.slcS (some 17) (.t 16) (some (.k (.int .i64 1))) none,.mov (some 0) (.t 17)]⟩]) <|
 .seq (.ops false [⟨none,[.mov (some 18) (.t 0),.call (some 19) true 66 [(.t 18)],.mov (some 2) (.t 19)]⟩]) <|
 .ret
def e68:C :=
 .seq (.ops false [⟨none,[.box 1 29 (.t 0),.mov (some 2) (.k (.bool false))]⟩]) <|
 .seq (.seq (.ops false [⟨none,[.fadr (some 11) 2 (.t 1),.load (some 12) false 1 false (.t 11),.len (some 13) false (.t 12),.bin (some 14) .gtr (.t 13) (.k (.int .i64 200)),.mov (some 15) (.t 14)]⟩,
  ⟨some (15,false),[.fadr (some 16) 3 (.t 1),.load (some 17) false 1 false (.t 16),.len (some 18) false (.t 17),.bin (some 19) .gtr (.t 18) (.k (.int .i64 100))]⟩,
  ⟨none,[.pick (some 20) (.t 15) (.k (.bool true)) (.t 19)]⟩]) <|
 .cond (.t 20)
  (.seq (.ops false [⟨none,[.mov (some 2) (.k (.bool false))]⟩]) <|
  .ret)
  (.skip)) <|
 .seq (.seq (.ops false [⟨none,[.mov (some 3) (.k (.int .i64 0))]⟩]) <|
 .block 0 <|
  .loop <|
   .seq (.seq (.ops false [⟨none,[.mov (some 21) (.t 3),.fadr (some 22) 2 (.t 1),.load (some 23) false 1 false (.t 22),.len (some 24) false (.t 23),.bin (some 25) .lss (.t 21) (.t 24)]⟩]) <|
   .cond (.t 25)
    (.skip)
    (.exit 0)) <|
   .seq (.block 1 <|
    .seq (.ops false [⟨none,[.fadr (some 28) 2 (.t 1),.load (some 29) false 1 false (.t 28),.mov (some 30) (.t 3),.iadr (some 31) 3 (.t 29) (.t 30),.load (some 32) false 3 true (.t 31),.alloc 4 62 [(.int .i64 0),(.str []),.nils],.store 3 (.t 4) (.t 32)]⟩]) <|
    .seq (.ops true [⟨none,[.fadr (some 33) 0 (.t 4),.load (some 34) false 2 true (.t 33),.call (some 35) true 121 [(.t 34)],.un (some 36) .not (.t 35),.mov (some 37) (.t 36)]⟩,
     ⟨some (37,false),[.load (some 38) false 8 true (.t 1),.fadr (some 39) 2 (.t 4),.load (some 40) false 1 false (.t 39),.call (some 41) true 122 [(.t 38),(.t 40)],.un (some 42) .not (.t 41)]⟩,
     ⟨none,[.pick (some 43) (.t 37) (.k (.bool true)) (.t 42),.mov (some 44) (.t 43)]⟩,
     ⟨some (44,false),[.mov (some 45) (.t 3),.bin (some 46) .gtr (.t 45) (.k (.int .i64 0)),.mov (some 47) (.t 46)]⟩,
     ⟨some (47,true),[.fadr (some 48) 2 (.t 1),.load (some 49) false 1 false (.t 48),.mov (some 50) (.t 3),.bin (some 51) .sub (.t 50) (.k (.int .i64 1)),.iadr (some 52) 3 (.t 49) (.t 51),.fadr (some 53) 0 (.t 52),.load (some 54) false 2 true (.t 53),.fadr (some 55) 0 (.t 4),.load (some 56) false 2 true (.t 55),.call (some 57) true 123 [(.t 54),(.t 56)],.bin (some 58) .geq (.t 57) (.k (.int .i64 0))]⟩,
     ⟨some (44,false),[.pick (some 59) (.t 47) (.t 58) (.k (.bool false))]⟩,
     ⟨none,[.pick (some 60) (.t 44) (.k (.bool true)) (.t 59)]⟩]) <|
    .cond (.t 60)
     (.seq (.ops false [⟨none,[.mov (some 2) (.k (.bool false))]⟩]) <|
     .ret)
     (.skip)) <|
   .ops false [⟨none,[.mov (some 26) (.t 3),.bin (some 27) .add (.t 26) (.k (.int .i64 1)),.mov (some 3) (.t 27)]⟩]) <|
 .seq (.seq (.ops false [⟨none,[.mov (some 5) (.k (.int .i64 0))]⟩]) <|
 .block 2 <|
  .loop <|
   .seq (.seq (.ops false [⟨none,[.mov (some 61) (.t 5),.fadr (some 62) 3 (.t 1),.load (some 63) false 1 false (.t 62),.len (some 64) false (.t 63),.bin (some 65) .lss (.t 61) (.t 64)]⟩]) <|
   .cond (.t 65)
    (.skip)
    (.exit 2)) <|
   .seq (.block 3 <|
    .seq (.ops true [⟨none,[.fadr (some 68) 3 (.t 1),.load (some 69) false 1 false (.t 68),.mov (some 70) (.t 5),.iadr (some 71) 3 (.t 69) (.t 70),.fadr (some 72) 0 (.t 71),.load (some 73) false 2 true (.t 72),.call (some 74) true 121 [(.t 73)],.un (some 75) .not (.t 74),.mov (some 76) (.t 75)]⟩,
     ⟨some (76,false),[.load (some 77) false 8 true (.t 1),.fadr (some 78) 3 (.t 1),.load (some 79) false 1 false (.t 78),.mov (some 80) (.t 5),.iadr (some 81) 3 (.t 79) (.t 80),.fadr (some 82) 2 (.t 81),.load (some 83) false 1 false (.t 82),.call (some 84) true 122 [(.t 77),(.t 83)],.un (some 85) .not (.t 84)]⟩,
     ⟨none,[.pick (some 86) (.t 76) (.k (.bool true)) (.t 85)]⟩]) <|
    .cond (.t 86)
     (.seq (.ops false [⟨none,[.mov (some 2) (.k (.bool false))]⟩]) <|
     .ret)
     (.skip)) <|
   .ops false [⟨none,[.mov (some 66) (.t 5),.bin (some 67) .add (.t 66) (.k (.int .i64 1)),.mov (some 5) (.t 67)]⟩]) <|
 .seq (.seq (.ops true [⟨none,[.load (some 88) false 8 true (.t 1),.call (some 89) true 81 [],.call (some 90) true 18 [(.t 88),(.t 89)],.mov (some 87) (.t 90),.ext (some 91) 0 (.t 87),.ext (some 92) 1 (.t 87),.alloc 6 62 [(.int .i64 0),(.str []),.nils],.store 3 (.t 6) (.t 91),.mov (some 7) (.t 92)]⟩]) <|
 .seq (.ops false [⟨none,[.mov (some 93) (.t 7)]⟩]) <|
 .cond (.t 93)
  (.seq (.ops false [⟨none,[.load (some 95) false 3 true (.t 6),.call (some 96) true 19 [(.t 95)],.field (some 97) 3 1 false (.t 96),.call (some 98) true 82 [(.t 97)],.mov (some 94) (.t 98),.ext (some 99) 0 (.t 94),.ext (some 100) 1 (.t 94),.ext (some 101) 2 (.t 94),.alloc 8 78 [.nils,.nils,.nils],.store 3 (.t 8) (.t 99),.mov (some 9) (.t 100),.mov (some 10) (.t 101)]⟩]) <|
  .seq (.ops false [⟨none,[.mov (some 102) (.t 10),.bin (some 103) .eql (.t 102) (.k (.int .i64 0)),.mov (some 2) (.t 103)]⟩]) <|
  .ret)
  (.skip)) <|
 .seq (.ops false [⟨none,[.mov (some 2) (.k (.bool true))]⟩]) <|
 .ret
def e69:C :=
 .seq (.ops false [⟨none,[.box 1 29 (.t 0),.mov (some 2) (.k (.bool false))]⟩]) <|
 .seq (.seq (.ops false [⟨none,[.fadr (some 6) 4 (.t 1),.load (some 7) false 1 false (.t 6),.len (some 8) false (.t 7),.bin (some 9) .gtr (.t 8) (.k (.int .i64 40)),.mov (some 10) (.t 9)]⟩,
  ⟨some (10,false),[.fadr (some 11) 5 (.t 1),.load (some 12) false 1 false (.t 11),.bin (some 13) .lss (.t 12) (.k (.int .i64 0))]⟩,
  ⟨none,[.pick (some 14) (.t 10) (.k (.bool true)) (.t 13),.mov (some 15) (.t 14)]⟩,
  ⟨some (15,false),[.fadr (some 16) 5 (.t 1),.load (some 17) false 1 false (.t 16),.bin (some 18) .gtr (.t 17) (.k (.int .i64 1073741824))]⟩,
  ⟨none,[.pick (some 19) (.t 15) (.k (.bool true)) (.t 18)]⟩]) <|
 .cond (.t 19)
  (.seq (.ops false [⟨none,[.mov (some 2) (.k (.bool false))]⟩]) <|
  .ret)
  (.skip)) <|
 .seq (.ops false [⟨none,[.mov (some 3) (.k (.int .i64 0))]⟩]) <|
 .seq (.seq (.ops false [⟨none,[.mov (some 4) (.k (.int .i64 0))]⟩]) <|
 .block 0 <|
  .loop <|
   .seq (.seq (.ops false [⟨none,[.mov (some 20) (.t 4),.fadr (some 21) 4 (.t 1),.load (some 22) false 1 false (.t 21),.len (some 23) false (.t 22),.bin (some 24) .lss (.t 20) (.t 23)]⟩]) <|
   .cond (.t 24)
    (.skip)
    (.exit 0)) <|
   .seq (.block 1 <|
    .seq (.ops false [⟨none,[.fadr (some 27) 4 (.t 1),.load (some 28) false 1 false (.t 27),.mov (some 29) (.t 4),.iadr (some 30) 8 (.t 28) (.t 29),.load (some 31) false 8 true (.t 30),.alloc 5 120 [(.int .i64 0),(.str []),(.str []),(.int .i64 0),(.str []),(.int .i64 0),(.str []),(.int .i64 0)],.store 8 (.t 5) (.t 31)]⟩]) <|
    .seq (.seq (.ops false [⟨none,[.fadr (some 32) 0 (.t 5),.load (some 33) false 1 false (.t 32),.mov (some 34) (.t 3),.bin (some 35) .leq (.t 33) (.t 34),.mov (some 36) (.t 35)]⟩,
     ⟨some (36,false),[.fadr (some 37) 0 (.t 5),.load (some 38) false 1 false (.t 37),.fadr (some 39) 5 (.t 1),.load (some 40) false 1 false (.t 39),.bin (some 41) .gtr (.t 38) (.t 40)]⟩,
     ⟨none,[.pick (some 42) (.t 36) (.k (.bool true)) (.t 41),.mov (some 43) (.t 42)]⟩,
     ⟨some (43,false),[.fadr (some 44) 1 (.t 5),.load (some 45) false 1 false (.t 44),.call (some 46) true 124 [(.t 45)],.un (some 47) .not (.t 46)]⟩,
     ⟨none,[.pick (some 48) (.t 43) (.k (.bool true)) (.t 47),.mov (some 49) (.t 48)]⟩,
     ⟨some (49,false),[.fadr (some 50) 3 (.t 5),.load (some 51) false 2 true (.t 50),.call (some 52) true 121 [(.t 51)],.un (some 53) .not (.t 52)]⟩,
     ⟨none,[.pick (some 54) (.t 49) (.k (.bool true)) (.t 53),.mov (some 55) (.t 54)]⟩,
     ⟨some (55,false),[.fadr (some 56) 5 (.t 5),.load (some 57) false 1 false (.t 56),.bin (some 58) .lss (.t 57) (.k (.int .i64 0))]⟩,
     ⟨none,[.pick (some 59) (.t 55) (.k (.bool true)) (.t 58),.mov (some 60) (.t 59)]⟩,
     ⟨some (60,false),[.fadr (some 61) 5 (.t 5),.load (some 62) false 1 false (.t 61),.bin (some 63) .gtr (.t 62) (.k (.int .i64 40))]⟩,
     ⟨none,[.pick (some 64) (.t 60) (.k (.bool true)) (.t 63),.mov (some 65) (.t 64)]⟩,
     ⟨some (65,false),[.fadr (some 66) 6 (.t 5),.load (some 67) false 1 false (.t 66),.len (some 68) true (.t 67),.bin (some 69) .gtr (.t 68) (.k (.int .i64 8192))]⟩,
     ⟨none,[.pick (some 70) (.t 65) (.k (.bool true)) (.t 69),.mov (some 71) (.t 70)]⟩,
     ⟨some (71,false),[.fadr (some 72) 2 (.t 5),.load (some 73) false 1 false (.t 72),.len (some 74) true (.t 73),.bin (some 75) .gtr (.t 74) (.k (.int .i64 200))]⟩,
     ⟨none,[.pick (some 76) (.t 71) (.k (.bool true)) (.t 75),.mov (some 77) (.t 76)]⟩,
     ⟨some (77,false),[.fadr (some 78) 7 (.t 5),.load (some 79) false 1 false (.t 78),.bin (some 80) .lss (.t 79) (.k (.int .i64 0))]⟩,
     ⟨none,[.pick (some 81) (.t 77) (.k (.bool true)) (.t 80),.mov (some 82) (.t 81)]⟩,
     ⟨some (82,false),[.fadr (some 83) 7 (.t 5),.load (some 84) false 1 false (.t 83),.fadr (some 85) 1 (.t 1),.load (some 86) false 1 false (.t 85),.bin (some 87) .gtr (.t 84) (.t 86)]⟩,
     ⟨none,[.pick (some 88) (.t 82) (.k (.bool true)) (.t 87)]⟩]) <|
    .cond (.t 88)
     (.seq (.ops false [⟨none,[.mov (some 2) (.k (.bool false))]⟩]) <|
     .ret)
     (.skip)) <|
    .ops false [⟨none,[.fadr (some 89) 0 (.t 5),.load (some 90) false 1 false (.t 89),.mov (some 3) (.t 90)]⟩]) <|
   .ops false [⟨none,[.mov (some 25) (.t 4),.bin (some 26) .add (.t 25) (.k (.int .i64 1)),.mov (some 4) (.t 26)]⟩]) <|
 .seq (.ops false [⟨none,[.mov (some 2) (.k (.bool true))]⟩]) <|
 .ret
def e70:C :=
 .seq (.ops false [⟨none,[.box 1 29 (.t 0),.mov (some 2) (.k (.bool false))]⟩]) <|
 .seq (.seq (.ops false [⟨none,[.fadr (some 7) 6 (.t 1),.load (some 8) false 1 false (.t 7),.len (some 9) false (.t 8),.bin (some 10) .gtr (.t 9) (.k (.int .i64 100)),.mov (some 11) (.t 10)]⟩,
  ⟨some (11,false),[.fadr (some 12) 7 (.t 1),.load (some 13) false 1 false (.t 12),.len (some 14) false (.t 13),.bin (some 15) .gtr (.t 14) (.k (.int .i64 60))]⟩,
  ⟨none,[.pick (some 16) (.t 11) (.k (.bool true)) (.t 15)]⟩]) <|
 .cond (.t 16)
  (.seq (.ops false [⟨none,[.mov (some 2) (.k (.bool false))]⟩]) <|
  .ret)
  (.skip)) <|
 .seq (.seq (.ops false [⟨none,[.mov (some 3) (.k (.int .i64 0))]⟩]) <|
 .block 0 <|
  .loop <|
   .seq (.seq (.ops false [⟨none,[.mov (some 17) (.t 3),.fadr (some 18) 6 (.t 1),.load (some 19) false 1 false (.t 18),.len (some 20) false (.t 19),.bin (some 21) .lss (.t 17) (.t 20)]⟩]) <|
   .cond (.t 21)
    (.skip)
    (.exit 0)) <|
   .seq (.block 1 <|
    .seq (.ops false [⟨none,[.fadr (some 24) 6 (.t 1),.load (some 25) false 1 false (.t 24),.mov (some 26) (.t 3),.iadr (some 27) 3 (.t 25) (.t 26),.load (some 28) false 3 true (.t 27),.alloc 4 216 [(.str []),(.int .i64 0),(.str [])],.store 3 (.t 4) (.t 28)]⟩]) <|
    .seq (.ops true [⟨none,[.fadr (some 29) 0 (.t 4),.load (some 30) false 1 false (.t 29),.call (some 31) true 125 [(.t 30)],.un (some 32) .not (.t 31),.mov (some 33) (.t 32)]⟩,
     ⟨some (33,false),[.fadr (some 34) 1 (.t 4),.load (some 35) false 2 true (.t 34),.call (some 36) true 121 [(.t 35)],.un (some 37) .not (.t 36)]⟩,
     ⟨none,[.pick (some 38) (.t 33) (.k (.bool true)) (.t 37),.mov (some 39) (.t 38)]⟩,
     ⟨some (39,false),[.mov (some 40) (.t 3),.bin (some 41) .gtr (.t 40) (.k (.int .i64 0)),.mov (some 42) (.t 41)]⟩,
     ⟨some (42,true),[.fadr (some 43) 6 (.t 1),.load (some 44) false 1 false (.t 43),.mov (some 45) (.t 3),.bin (some 46) .sub (.t 45) (.k (.int .i64 1)),.iadr (some 47) 3 (.t 44) (.t 46),.load (some 48) false 3 true (.t 47),.load (some 49) false 3 true (.t 4),.call (some 50) true 126 [(.t 48),(.t 49)],.un (some 51) .not (.t 50)]⟩,
     ⟨some (39,false),[.pick (some 52) (.t 42) (.t 51) (.k (.bool false))]⟩,
     ⟨none,[.pick (some 53) (.t 39) (.k (.bool true)) (.t 52)]⟩]) <|
    .cond (.t 53)
     (.seq (.ops false [⟨none,[.mov (some 2) (.k (.bool false))]⟩]) <|
     .ret)
     (.skip)) <|
   .ops false [⟨none,[.mov (some 22) (.t 3),.bin (some 23) .add (.t 22) (.k (.int .i64 1)),.mov (some 3) (.t 23)]⟩]) <|
 .seq (.seq (.ops false [⟨none,[.mov (some 5) (.k (.int .i64 0))]⟩]) <|
 .block 2 <|
  .loop <|
   .seq (.seq (.ops false [⟨none,[.mov (some 54) (.t 5),.fadr (some 55) 7 (.t 1),.load (some 56) false 1 false (.t 55),.len (some 57) false (.t 56),.bin (some 58) .lss (.t 54) (.t 57)]⟩]) <|
   .cond (.t 58)
    (.skip)
    (.exit 2)) <|
   .seq (.block 3 <|
    .seq (.ops false [⟨none,[.fadr (some 61) 7 (.t 1),.load (some 62) false 1 false (.t 61),.mov (some 63) (.t 5),.iadr (some 64) 2 (.t 62) (.t 63),.load (some 65) false 2 true (.t 64),.alloc 6 162 [(.str []),(.int .i64 0)],.store 2 (.t 6) (.t 65)]⟩]) <|
    .seq (.ops true [⟨none,[.fadr (some 66) 0 (.t 6),.load (some 67) false 1 false (.t 66),.call (some 68) true 125 [(.t 67)],.un (some 69) .not (.t 68),.mov (some 70) (.t 69)]⟩,
     ⟨some (70,false),[.fadr (some 71) 1 (.t 6),.load (some 72) false 1 false (.t 71),.bin (some 73) .lss (.t 72) (.k (.int .i64 1))]⟩,
     ⟨none,[.pick (some 74) (.t 70) (.k (.bool true)) (.t 73),.mov (some 75) (.t 74)]⟩,
     ⟨some (75,false),[.fadr (some 76) 1 (.t 6),.load (some 77) false 1 false (.t 76),.fadr (some 78) 0 (.t 1),.load (some 79) false 1 false (.t 78),.bin (some 80) .gtr (.t 77) (.t 79)]⟩,
     ⟨none,[.pick (some 81) (.t 75) (.k (.bool true)) (.t 80),.mov (some 82) (.t 81)]⟩,
     ⟨some (82,false),[.mov (some 83) (.t 5),.bin (some 84) .gtr (.t 83) (.k (.int .i64 0)),.mov (some 85) (.t 84)]⟩,
     ⟨some (85,true),[.fadr (some 86) 7 (.t 1),.load (some 87) false 1 false (.t 86),.mov (some 88) (.t 5),.bin (some 89) .sub (.t 88) (.k (.int .i64 1)),.iadr (some 90) 2 (.t 87) (.t 89),.fadr (some 91) 0 (.t 90),.load (some 92) false 1 false (.t 91),.fadr (some 93) 0 (.t 6),.load (some 94) false 1 false (.t 93),.bin (some 95) .geq (.t 92) (.t 94)]⟩,
     ⟨some (82,false),[.pick (some 96) (.t 85) (.t 95) (.k (.bool false))]⟩,
     ⟨none,[.pick (some 97) (.t 82) (.k (.bool true)) (.t 96)]⟩]) <|
    .cond (.t 97)
     (.seq (.ops false [⟨none,[.mov (some 2) (.k (.bool false))]⟩]) <|
     .ret)
     (.skip)) <|
   .ops false [⟨none,[.mov (some 59) (.t 5),.bin (some 60) .add (.t 59) (.k (.int .i64 1)),.mov (some 5) (.t 60)]⟩]) <|
 .seq (.ops false [⟨none,[.mov (some 2) (.k (.bool true))]⟩]) <|
 .ret
def e71:C :=
 .seq (.ops false [⟨none,[.box 1 57 (.t 0),.mov (some 2) (.k (.bool false))]⟩]) <|
 .seq (.ops false [⟨none,[.fadr (some 6) 0 (.t 1),.load (some 7) false 1 false (.t 6),.bin (some 8) .eql (.t 7) (.k (.int .i64 1)),.mov (some 9) (.t 8)]⟩,
  ⟨some (9,false),[.fadr (some 10) 0 (.t 1),.load (some 11) false 1 false (.t 10),.bin (some 12) .eql (.t 11) (.k (.int .i64 9))]⟩,
  ⟨none,[.pick (some 13) (.t 9) (.k (.bool true)) (.t 12),.mov (some 3) (.t 13)]⟩]) <|
 .seq (.ops false [⟨none,[.fadr (some 14) 0 (.t 1),.load (some 15) false 1 false (.t 14),.bin (some 16) .eql (.t 15) (.k (.int .i64 4)),.mov (some 17) (.t 16)]⟩,
  ⟨some (17,false),[.fadr (some 18) 0 (.t 1),.load (some 19) false 1 false (.t 18),.bin (some 20) .eql (.t 19) (.k (.int .i64 6))]⟩,
  ⟨none,[.pick (some 21) (.t 17) (.k (.bool true)) (.t 20),.mov (some 22) (.t 21)]⟩,
  ⟨some (22,false),[.fadr (some 23) 0 (.t 1),.load (some 24) false 1 false (.t 23),.bin (some 25) .eql (.t 24) (.k (.int .i64 9))]⟩,
  ⟨none,[.pick (some 26) (.t 22) (.k (.bool true)) (.t 25),.mov (some 27) (.t 26)]⟩,
  ⟨some (27,false),[.fadr (some 28) 0 (.t 1),.load (some 29) false 1 false (.t 28),.bin (some 30) .eql (.t 29) (.k (.int .i64 10))]⟩,
  ⟨none,[.pick (some 31) (.t 27) (.k (.bool true)) (.t 30),.mov (some 4) (.t 31)]⟩]) <|
 .seq (.ops false [⟨none,[.fadr (some 32) 0 (.t 1),.load (some 33) false 1 false (.t 32),.bin (some 34) .neq (.t 33) (.k (.int .i64 6)),.mov (some 35) (.t 34)]⟩,
  ⟨some (35,true),[.fadr (some 36) 0 (.t 1),.load (some 37) false 1 false (.t 36),.bin (some 38) .neq (.t 37) (.k (.int .i64 10))]⟩,
  ⟨none,[.pick (some 39) (.t 35) (.t 38) (.k (.bool false)),.mov (some 5) (.t 39)]⟩]) <|
 .seq (.seq (.ops false [⟨none,[.fadr (some 40) 0 (.t 1),.load (some 41) false 1 false (.t 40),.bin (some 42) .lss (.t 41) (.k (.int .i64 1)),.mov (some 43) (.t 42)]⟩,
  ⟨some (43,false),[.fadr (some 44) 0 (.t 1),.load (some 45) false 1 false (.t 44),.bin (some 46) .gtr (.t 45) (.k (.int .i64 10))]⟩,
  ⟨none,[.pick (some 47) (.t 43) (.k (.bool true)) (.t 46)]⟩]) <|
 .cond (.t 47)
  (.seq (.ops false [⟨none,[.mov (some 2) (.k (.bool false))]⟩]) <|
  .ret)
  (.skip)) <|
 .seq (.seq (.ops false [⟨none,[.mov (some 48) (.t 3),.un (some 49) .not (.t 48),.mov (some 50) (.t 49)]⟩,
  ⟨some (50,true),[.fadr (some 51) 2 (.t 1),.load (some 52) false 1 false (.t 51),.bin (some 53) .neq (.t 52) (.k (.str [])),.mov (some 54) (.t 53)]⟩,
  ⟨some (54,false),[.fadr (some 55) 7 (.t 1),.load (some 56) false 1 false (.t 55),.bin (some 57) .neq (.t 56) (.k (.str []))]⟩,
  ⟨some (50,true),[.pick (some 58) (.t 54) (.k (.bool true)) (.t 57)]⟩,
  ⟨none,[.pick (some 59) (.t 50) (.t 58) (.k (.bool false)),.mov (some 60) (.t 59)]⟩,
  ⟨some (60,false),[.mov (some 61) (.t 4),.un (some 62) .not (.t 61),.mov (some 63) (.t 62)]⟩,
  ⟨some (63,true),[.fadr (some 64) 8 (.t 1),.load (some 65) false 1 false (.t 64),.bin (some 66) .neq (.t 65) (.k (.int .i64 0))]⟩,
  ⟨some (60,false),[.pick (some 67) (.t 63) (.t 66) (.k (.bool false))]⟩,
  ⟨none,[.pick (some 68) (.t 60) (.k (.bool true)) (.t 67),.mov (some 69) (.t 68)]⟩,
  ⟨some (69,false),[.mov (some 70) (.t 5),.un (some 71) .not (.t 70),.mov (some 72) (.t 71)]⟩,
  ⟨some (72,true),[.fadr (some 73) 3 (.t 1),.load (some 74) false 2 true (.t 73),.build (some 75) [(.int .i64 0),(.str [])] [],.eqA (some 76) true [0,1] (.t 74) (.t 75)]⟩,
  ⟨some (69,false),[.pick (some 77) (.t 72) (.t 76) (.k (.bool false))]⟩,
  ⟨none,[.pick (some 78) (.t 69) (.k (.bool true)) (.t 77)]⟩]) <|
 .cond (.t 78)
  (.seq (.ops false [⟨none,[.mov (some 2) (.k (.bool false))]⟩]) <|
  .ret)
  (.skip)) <|
 .seq (.seq (.ops false [⟨none,[.fadr (some 79) 0 (.t 1),.load (some 80) false 1 false (.t 79),.bin (some 81) .eql (.t 80) (.k (.int .i64 6)),.mov (some 82) (.t 81)]⟩,
  ⟨some (82,true),[.fadr (some 83) 1 (.t 1),.load (some 84) false 1 false (.t 83),.bin (some 85) .neq (.t 84) (.k (.str []))]⟩,
  ⟨none,[.pick (some 86) (.t 82) (.t 85) (.k (.bool false))]⟩]) <|
 .cond (.t 86)
  (.seq (.ops false [⟨none,[.mov (some 2) (.k (.bool false))]⟩]) <|
  .ret)
  (.skip)) <|
 .seq (.ops false [⟨none,[.fadr (some 87) 0 (.t 1),.load (some 88) false 1 false (.t 87),.bin (some 89) .eql (.t 88) (.k (.int .i64 4)),.mov (some 90) (.t 89)]⟩,
  ⟨some (90,false),[.fadr (some 91) 5 (.t 1),.load (some 92) false 2 true (.t 91),.build (some 93) [(.int .i64 0),(.str [])] [],.eqA (some 94) false [0,1] (.t 92) (.t 93)]⟩,
  ⟨none,[.pick (some 95) (.t 90) (.k (.bool true)) (.t 94),.mov (some 96) (.t 95)]⟩,
  ⟨some (96,true),[.fadr (some 97) 0 (.t 1),.load (some 98) false 1 false (.t 97),.bin (some 99) .eql (.t 98) (.k (.int .i64 5)),.mov (some 100) (.t 99)]⟩,
  ⟨some (100,false),[.fadr (some 101) 9 (.t 1),.load (some 102) false 1 false (.t 101),.len (some 103) false (.t 102),.bin (some 104) .eql (.t 103) (.k (.int .i64 0))]⟩,
  ⟨some (96,true),[.pick (some 105) (.t 100) (.k (.bool true)) (.t 104)]⟩,
  ⟨none,[.pick (some 106) (.t 96) (.t 105) (.k (.bool false)),.mov (some 2) (.t 106)]⟩]) <|
 .ret
def e72:C :=
 .seq (.ops false [⟨none,[.box 1 57 (.t 0),.mov (some 2) (.k (.bool false))]⟩]) <|
 .seq (.seq (.ops false [⟨none,[.fadr (some 3) 0 (.t 1),.load (some 4) false 1 false (.t 3),.bin (some 5) .neq (.t 4) (.k (.int .i64 6)),.mov (some 6) (.t 5)]⟩,
  ⟨some (6,true),[.fadr (some 7) 0 (.t 1),.load (some 8) false 1 false (.t 7),.bin (some 9) .neq (.t 8) (.k (.int .i64 10))]⟩,
  ⟨none,[.pick (some 10) (.t 6) (.t 9) (.k (.bool false)),.mov (some 11) (.t 10)]⟩,
  ⟨some (11,true),[.fadr (some 12) 3 (.t 1),.load (some 13) false 2 true (.t 12),.call (some 14) true 121 [(.t 13)],.un (some 15) .not (.t 14)]⟩,
  ⟨none,[.pick (some 16) (.t 11) (.t 15) (.k (.bool false)),.mov (some 17) (.t 16)]⟩,
  ⟨some (17,false),[.fadr (some 18) 1 (.t 1),.load (some 19) false 1 false (.t 18),.call (some 20) true 127 [(.t 19)],.un (some 21) .not (.t 20)]⟩,
  ⟨none,[.pick (some 22) (.t 17) (.k (.bool true)) (.t 21)]⟩]) <|
 .cond (.t 22)
  (.seq (.ops false [⟨none,[.mov (some 2) (.k (.bool false))]⟩]) <|
  .ret)
  (.skip)) <|
 .seq (.seq (.ops false [⟨none,[.fadr (some 23) 0 (.t 1),.load (some 24) false 1 false (.t 23)]⟩]) <|
 .block 0 <|
  .seq (.seq (.ops false [⟨none,[.bin (some 26) .eql (.t 24) (.k (.int .i64 7)),.mov (some 25) (.t 26)]⟩]) <|
  .cond (.t 25)
   (.skip)
   (.ops false [⟨none,[.bin (some 27) .eql (.t 24) (.k (.int .i64 8)),.mov (some 25) (.t 27)]⟩])) <|
  .cond (.t 25)
   (.seq (.ops false [⟨none,[.fadr (some 28) 1 (.t 1),.load (some 29) false 1 false (.t 28),.bin (some 30) .neq (.t 29) (.k (.str [])),.mov (some 2) (.t 30)]⟩]) <|
   .ret)
   (.seq (.ops false [⟨none,[.bin (some 32) .eql (.t 24) (.k (.int .i64 4)),.mov (some 31) (.t 32)]⟩]) <|
   .cond (.t 31)
    (.seq (.ops false [⟨none,[.fadr (some 33) 5 (.t 1),.load (some 34) false 2 true (.t 33),.call (some 35) true 121 [(.t 34)],.mov (some 36) (.t 35)]⟩,
     ⟨some (36,true),[.fadr (some 37) 8 (.t 1),.load (some 38) false 1 false (.t 37),.bin (some 39) .eql (.t 38) (.k (.int .i64 0)),.mov (some 40) (.t 39)]⟩,
     ⟨some (40,false),[.fadr (some 41) 8 (.t 1),.load (some 42) false 1 false (.t 41),.bin (some 43) .eql (.t 42) (.k (.int .i64 1))]⟩,
     ⟨some (36,true),[.pick (some 44) (.t 40) (.k (.bool true)) (.t 43)]⟩,
     ⟨none,[.pick (some 45) (.t 36) (.t 44) (.k (.bool false)),.mov (some 2) (.t 45)]⟩]) <|
    .ret)
    (.seq (.ops false [⟨none,[.bin (some 47) .eql (.t 24) (.k (.int .i64 6)),.mov (some 46) (.t 47)]⟩]) <|
    .cond (.t 46)
     (.seq (.ops false [⟨none,[.fadr (some 48) 8 (.t 1),.load (some 49) false 1 false (.t 48),.bin (some 50) .geq (.t 49) (.k (.int .i64 1)),.mov (some 51) (.t 50)]⟩,
      ⟨some (51,true),[.fadr (some 52) 8 (.t 1),.load (some 53) false 1 false (.t 52),.bin (some 54) .leq (.t 53) (.k (.int .i64 52596000))]⟩,
      ⟨none,[.pick (some 55) (.t 51) (.t 54) (.k (.bool false)),.mov (some 2) (.t 55)]⟩]) <|
     .ret)
     (.seq (.ops false [⟨none,[.bin (some 57) .eql (.t 24) (.k (.int .i64 9)),.mov (some 56) (.t 57)]⟩]) <|
     .cond (.t 56)
      (.seq (.ops false [⟨none,[.fadr (some 58) 8 (.t 1),.load (some 59) false 1 false (.t 58),.bin (some 60) .geq (.t 59) (.k (.int .i64 0)),.mov (some 61) (.t 60)]⟩,
       ⟨some (61,true),[.fadr (some 62) 8 (.t 1),.load (some 63) false 1 false (.t 62),.bin (some 64) .leq (.t 63) (.k (.int .i64 40))]⟩,
       ⟨none,[.pick (some 65) (.t 61) (.t 64) (.k (.bool false)),.mov (some 2) (.t 65)]⟩]) <|
      .ret)
      (.seq (.ops false [⟨none,[.bin (some 67) .eql (.t 24) (.k (.int .i64 10)),.mov (some 66) (.t 67)]⟩]) <|
      .cond (.t 66)
       (.seq (.ops false [⟨none,[.fadr (some 68) 8 (.t 1),.load (some 69) false 1 false (.t 68),.bin (some 70) .geq (.t 69) (.k (.int .i64 1)),.mov (some 71) (.t 70)]⟩,
        ⟨some (71,true),[.fadr (some 72) 8 (.t 1),.load (some 73) false 1 false (.t 72),.bin (some 74) .leq (.t 73) (.k (.int .i64 1073741824))]⟩,
        ⟨none,[.pick (some 75) (.t 71) (.t 74) (.k (.bool false)),.mov (some 2) (.t 75)]⟩]) <|
       .ret)
       (.seq (.ops false [⟨none,[.bin (some 77) .eql (.t 24) (.k (.int .i64 5)),.mov (some 76) (.t 77)]⟩]) <|
       .cond (.t 76)
        (.seq (.ops false [⟨none,[.fadr (some 78) 9 (.t 1),.load (some 79) false 1 false (.t 78),.call (some 80) true 128 [(.t 79)],.mov (some 2) (.t 80)]⟩]) <|
        .ret)
        (.skip))))))) <|
 .seq (.ops false [⟨none,[.mov (some 2) (.k (.bool true))]⟩]) <|
 .ret
def e73:C :=
 .seq (.ops false [⟨none,[.box 3 29 (.t 0),.box 4 57 (.t 1),.alloc 6 29 [(.int .i64 0),(.int .i64 0),.nils,.nils,.nils,(.int .i64 0),.nils,.nils],.mov (some 7) (.k (.int .i64 0))]⟩]) <|
 .seq (.ops false [⟨none,[.fadr (some 11) 1 (.t 4),.load (some 12) false 1 false (.t 11),.fadr (some 13) 2 (.t 4),.load (some 14) false 1 false (.t 13),.fadr (some 15) 7 (.t 4),.load (some 16) false 1 false (.t 15),.fadr (some 17) 1 (.t 3),.load (some 18) false 1 false (.t 17),.mov (some 19) (.t 2),.build (some 20) [(.int .i64 0),(.str []),(.str []),(.str []),(.int .i64 0),(.int .i64 0)] [(0,1,(.k (.int .i64 1))),(1,1,(.t 12)),(2,1,(.t 14)),(3,1,(.t 16)),(4,1,(.t 18)),(5,1,(.t 19))],.alloc 8 66 [(.int .i64 0),(.str []),(.str []),(.str []),(.int .i64 0),(.int .i64 0)],.store 6 (.t 8) (.t 20)]⟩]) <|
 .seq (.ops false [⟨none,[.fadr (some 21) 2 (.t 3),.load (some 22) false 1 false (.t 21),.fadr (some 23) 3 (.t 4),.load (some 24) false 2 true (.t 23),.call (some 25) true 48 [(.t 22),(.t 24)],.mov (some 9) (.t 25)]⟩]) <|
 .seq (.seq (.ops false [⟨none,[.mov (some 26) (.t 9),.bin (some 27) .lss (.t 26) (.k (.int .i64 0))]⟩]) <|
 .cond (.t 27)
  (.seq (.seq (.ops false [⟨none,[.fadr (some 28) 2 (.t 3),.load (some 29) false 1 false (.t 28),.len (some 30) false (.t 29),.bin (some 31) .geq (.t 30) (.k (.int .i64 200))]⟩]) <|
  .cond (.t 31)
   (.seq (.ops false [⟨none,[.load (some 32) false 8 true (.t 3),.store 8 (.t 6) (.t 32),.mov (some 7) (.k (.int .i64 8))]⟩]) <|
   .ret)
   (.skip)) <|
  .seq (.ops false [⟨none,[.fadr (some 33) 2 (.t 3),.load (some 34) false 1 false (.t 33),.fadr (some 35) 3 (.t 4),.load (some 36) false 2 true (.t 35),.load (some 37) false 6 true (.t 8),.mkl (some 38) 6 [(.t 37)],.build (some 39) [(.int .i64 0),(.str []),.nils] [(0,2,(.t 36)),(2,1,(.t 38))],.call (some 40) true 129 [(.t 34),(.t 39)],.fadr (some 41) 2 (.t 3),.store 1 (.t 41) (.t 40)]⟩]) <|
  .seq (.ops false [⟨none,[.load (some 42) false 8 true (.t 3),.store 8 (.t 6) (.t 42),.mov (some 7) (.k (.int .i64 0))]⟩]) <|
  .ret)
  (.skip)) <|
 .seq (.ops false [⟨none,[.fadr (some 43) 2 (.t 3),.load (some 44) false 1 false (.t 43),.mov (some 45) (.t 9),.iadr (some 46) 3 (.t 44) (.t 45),.fadr (some 47) 2 (.t 46),.load (some 48) false 1 false (.t 47),.mov (some 10) (.t 48)]⟩]) <|
 .seq (.seq (.ops false [⟨none,[.mov (some 49) (.t 10),.len (some 50) false (.t 49),.bin (some 51) .geq (.t 50) (.k (.int .i64 40))]⟩]) <|
 .cond (.t 51)
  (.seq (.ops false [⟨none,[.load (some 52) false 8 true (.t 3),.store 8 (.t 6) (.t 52),.mov (some 7) (.k (.int .i64 8))]⟩]) <|
  .ret)
  (.skip)) <|
 .seq (.ops false [⟨none,[.mov (some 53) (.t 10),.len (some 54) false (.t 53),.bin (some 55) .add (.t 54) (.k (.int .i64 1)),.fadr (some 56) 0 (.t 8),.store 1 (.t 56) (.t 55)]⟩]) <|
 .seq (.ops false [⟨none,[.fadr (some 57) 2 (.t 3),.load (some 58) false 1 false (.t 57),.app 59 62 3 (.k .nils) (.t 58),.fadr (some 60) 2 (.t 3),.store 1 (.t 60) (.t 59)]⟩]) <|
 .seq (.ops true [⟨none,[.fadr (some 61) 2 (.t 3),.ldo (some 62) 1 false (.t 61),.mov (some 63) (.t 9),.mov (some 64) (.t 10),.appl 65 66 6 (.t 64),.load (some 66) false 6 true (.t 8),.mkl (some 67) 6 [(.t 66)],.apq 68 66 6 (.t 65) (.t 67),.iadr (some 69) 3 (.t 62) (.t 63),.fadr (some 70) 2 (.t 69),.store 1 (.t 70) (.t 68)]⟩]) <|
 .seq (.ops false [⟨none,[.load (some 71) false 8 true (.t 3),.store 8 (.t 6) (.t 71),.mov (some 7) (.k (.int .i64 0))]⟩]) <|
 .ret
def e79:C :=
 .seq (.ops false [⟨none,[.box 2 29 (.t 0),.box 3 57 (.t 1),.alloc 4 29 [(.int .i64 0),(.int .i64 0),.nils,.nils,.nils,(.int .i64 0),.nils,.nils],.mov (some 5) (.k (.int .i64 0))]⟩]) <|
 .seq (.seq (.ops false [⟨none,[.fadr (some 7) 4 (.t 2),.load (some 8) false 1 false (.t 7),.len (some 9) false (.t 8),.bin (some 10) .geq (.t 9) (.k (.int .i64 40)),.mov (some 11) (.t 10)]⟩,
  ⟨some (11,false),[.fadr (some 12) 5 (.t 2),.load (some 13) false 1 false (.t 12),.bin (some 14) .geq (.t 13) (.k (.int .i64 1073741824))]⟩,
  ⟨none,[.pick (some 15) (.t 11) (.k (.bool true)) (.t 14)]⟩]) <|
 .cond (.t 15)
  (.seq (.ops false [⟨none,[.load (some 16) false 8 true (.t 2),.store 8 (.t 4) (.t 16),.mov (some 5) (.k (.int .i64 8))]⟩]) <|
  .ret)
  (.skip)) <|
 .seq (.ops false [⟨none,[.fadr (some 17) 5 (.t 2),.load (some 18) false 1 false (.t 17),.bin (some 19) .add (.t 18) (.k (.int .i64 1)),.fadr (some 20) 5 (.t 2),.store 1 (.t 20) (.t 19)]⟩]) <|
 .seq (.ops false [⟨none,[.fadr (some 21) 5 (.t 2),.load (some 22) false 1 false (.t 21),.fadr (some 23) 1 (.t 3),.load (some 24) false 1 false (.t 23),.fadr (some 25) 2 (.t 3),.load (some 26) false 1 false (.t 25),.fadr (some 27) 3 (.t 3),.load (some 28) false 2 true (.t 27),.fadr (some 29) 8 (.t 3),.load (some 30) false 1 false (.t 29),.fadr (some 31) 7 (.t 3),.load (some 32) false 1 false (.t 31),.fadr (some 33) 1 (.t 2),.load (some 34) false 1 false (.t 33),.build (some 35) [(.int .i64 0),(.str []),(.str []),(.int .i64 0),(.str []),(.int .i64 0),(.str []),(.int .i64 0)] [(0,1,(.t 22)),(1,1,(.t 24)),(2,1,(.t 26)),(3,2,(.t 28)),(5,1,(.t 30)),(6,1,(.t 32)),(7,1,(.t 34))],.alloc 6 120 [(.int .i64 0),(.str []),(.str []),(.int .i64 0),(.str []),(.int .i64 0),(.str []),(.int .i64 0)],.store 8 (.t 6) (.t 35)]⟩]) <|
 .seq (.ops true [⟨none,[.fadr (some 36) 4 (.t 2),.load (some 37) false 1 false (.t 36),.appl 38 120 8 (.t 37),.load (some 39) false 8 true (.t 6),.mkl (some 40) 8 [(.t 39)],.app 41 120 8 (.t 38) (.t 40),.fadr (some 42) 4 (.t 2),.store 1 (.t 42) (.t 41)]⟩]) <|
 .seq (.ops false [⟨none,[.load (some 43) false 8 true (.t 2),.store 8 (.t 4) (.t 43),.mov (some 5) (.k (.int .i64 0))]⟩]) <|
 .ret
def e80:C :=
 .seq (.ops false [⟨none,[.box 2 29 (.t 0),.box 3 57 (.t 1),.alloc 4 29 [(.int .i64 0),(.int .i64 0),.nils,.nils,.nils,(.int .i64 0),.nils,.nils],.mov (some 5) (.k (.int .i64 0))]⟩]) <|
 .seq (.ops false [⟨none,[.mov (some 6) (.k .nils)]⟩]) <|
 .seq (.seq (.ops false [⟨none,[.mov (some 7) (.k (.int .i64 0))]⟩]) <|
 .block 0 <|
  .loop <|
   .seq (.seq (.ops false [⟨none,[.mov (some 8) (.t 7),.fadr (some 9) 4 (.t 2),.load (some 10) false 1 false (.t 9),.len (some 11) false (.t 10),.bin (some 12) .lss (.t 8) (.t 11)]⟩]) <|
   .cond (.t 12)
    (.skip)
    (.exit 0)) <|
   .seq (.block 1 <|
    .seq (.ops true [⟨none,[.fadr (some 15) 4 (.t 2),.load (some 16) false 1 false (.t 15),.mov (some 17) (.t 7),.iadr (some 18) 8 (.t 16) (.t 17),.fadr (some 19) 0 (.t 18),.load (some 20) false 1 false (.t 19),.fadr (some 21) 8 (.t 3),.load (some 22) false 1 false (.t 21),.bin (some 23) .neq (.t 20) (.t 22)]⟩]) <|
    .cond (.t 23)
     (.ops false [⟨none,[.mov (some 24) (.t 6),.fadr (some 25) 4 (.t 2),.load (some 26) false 1 false (.t 25),.mov (some 27) (.t 7),.iadr (some 28) 8 (.t 26) (.t 27),.load (some 29) false 8 true (.t 28),.mkl (some 30) 8 [(.t 29)],.app 31 120 8 (.t 24) (.t 30),.mov (some 6) (.t 31)]⟩])
     (.skip)) <|
   .ops false [⟨none,[.mov (some 13) (.t 7),.bin (some 14) .add (.t 13) (.k (.int .i64 1)),.mov (some 7) (.t 14)]⟩]) <|
 .seq (.seq (.ops false [⟨none,[.mov (some 32) (.t 6),.len (some 33) false (.t 32),.fadr (some 34) 4 (.t 2),.load (some 35) false 1 false (.t 34),.len (some 36) false (.t 35),.bin (some 37) .eql (.t 33) (.t 36)]⟩]) <|
 .cond (.t 37)
  (.seq (.ops false [⟨none,[.load (some 38) false 8 true (.t 2),.store 8 (.t 4) (.t 38),.mov (some 5) (.k (.int .i64 4))]⟩]) <|
  .ret)
  (.skip)) <|
 .seq (.ops false [⟨none,[.mov (some 39) (.t 6),.fadr (some 40) 4 (.t 2),.store 1 (.t 40) (.t 39)]⟩]) <|
 .seq (.ops false [⟨none,[.load (some 41) false 8 true (.t 2),.store 8 (.t 4) (.t 41),.mov (some 5) (.k (.int .i64 0))]⟩]) <|
 .ret
def e81:C :=
 .seq (.ops false [⟨none,[.alloc 0 41 [(.int .i64 0),(.str [])]]⟩]) <|
 .seq (.ops false [⟨none,[.build (some 1) [(.int .i64 0),(.str [])] [(0,1,(.k (.int .i64 5))),(1,1,(.k (.str [80,111,108,105,99,121])))],.store 2 (.t 0) (.t 1)]⟩]) <|
 .ret
def e82:C :=
 .seq (.ops false [⟨none,[.alloc 2 78 [.nils,.nils,.nils],.mov (some 3) (.k (.int .i64 0)),.mov (some 4) (.k (.int .i64 0))]⟩]) <|
 .seq (.seq (.ops false [⟨none,[.mov (some 11) (.t 0),.len (some 12) true (.t 11),.bin (some 13) .gtr (.t 12) (.k (.int .i64 8192))]⟩]) <|
 .cond (.t 13)
  (.seq (.ops false [⟨none,[.build (some 14) [.nils,.nils,.nils] [],.store 3 (.t 2) (.t 14),.mov (some 3) (.k (.int .i64 0)),.mov (some 4) (.k (.int .i64 3))]⟩]) <|
  .ret)
  (.skip)) <|
 .seq (.ops false [⟨none,[.alloc 5 78 [.nils,.nils,.nils]]⟩]) <|
 .seq (.ops false [⟨none,[.mov (some 15) (.t 0),.call (some 16) true 134 [(.t 15)],.mov (some 6) (.t 16)]⟩]) <|
 .seq (.seq (.ops false [⟨none,[.mov (some 7) (.k (.int .i64 0))]⟩]) <|
 .block 0 <|
  .loop <|
   .seq (.seq (.ops false [⟨none,[.mov (some 17) (.t 7),.mov (some 18) (.t 6),.len (some 19) false (.t 18),.bin (some 20) .lss (.t 17) (.t 19)]⟩]) <|
   .cond (.t 20)
    (.skip)
    (.exit 0)) <|
   .seq (.block 1 <|
    .seq (.ops true [⟨none,[.load (some 24) false 3 true (.t 5),.mov (some 25) (.t 6),.mov (some 26) (.t 7),.iadr (some 27) 1 (.t 25) (.t 26),.load (some 28) false 1 false (.t 27),.call (some 29) true 135 [(.t 24),(.t 28)],.mov (some 23) (.t 29),.ext (some 30) 0 (.t 23),.ext (some 31) 1 (.t 23),.alloc 8 78 [.nils,.nils,.nils],.store 3 (.t 8) (.t 30),.mov (some 9) (.t 31)]⟩]) <|
    .seq (.seq (.ops false [⟨none,[.mov (some 32) (.t 9),.un (some 33) .not (.t 32)]⟩]) <|
    .cond (.t 33)
     (.seq (.ops false [⟨none,[.build (some 34) [.nils,.nils,.nils] [],.mov (some 35) (.t 7),.bin (some 36) .add (.t 35) (.k (.int .i64 1)),.store 3 (.t 2) (.t 34),.mov (some 3) (.t 36),.mov (some 4) (.k (.int .i64 1))]⟩]) <|
     .ret)
     (.skip)) <|
    .ops false [⟨none,[.load (some 37) false 3 true (.t 8),.store 3 (.t 5) (.t 37)]⟩]) <|
   .ops false [⟨none,[.mov (some 21) (.t 7),.bin (some 22) .add (.t 21) (.k (.int .i64 1)),.mov (some 7) (.t 22)]⟩]) <|
 .seq (.seq (.ops false [⟨none,[.load (some 38) false 3 true (.t 5),.call (some 39) true 136 [(.t 38)],.mov (some 10) (.t 39)]⟩]) <|
 .seq (.ops false [⟨none,[.mov (some 40) (.t 10),.bin (some 41) .neq (.t 40) (.k (.int .i64 0))]⟩]) <|
 .cond (.t 41)
  (.seq (.ops false [⟨none,[.build (some 42) [.nils,.nils,.nils] [],.mov (some 43) (.t 10),.store 3 (.t 2) (.t 42),.mov (some 3) (.k (.int .i64 0)),.mov (some 4) (.t 43)]⟩]) <|
  .ret)
  (.skip)) <|
 .seq (.ops false [⟨none,[.load (some 44) false 3 true (.t 5),.store 3 (.t 2) (.t 44),.mov (some 3) (.k (.int .i64 0)),.mov (some 4) (.k (.int .i64 0))]⟩]) <|
 .ret
def e83:C :=
 .seq (.ops false [⟨none,[.box 2 29 (.t 0),.mov (some 4) (.k .nils)]⟩]) <|
 .seq (.ops false [⟨none,[.load (some 10) false 8 true (.t 2),.mov (some 11) (.t 1),.call (some 12) true 23 [(.t 10),(.t 11)],.alloc 5 80 [.nils,.nils,.nils,.nils],.store 4 (.t 5) (.t 12)]⟩]) <|
 .seq (.ops false [⟨none,[.mov (some 6) (.k .nils)]⟩]) <|
 .seq (.seq (.ops false [⟨none,[.fadr (some 13) 4 (.t 2),.load (some 14) false 1 false (.t 13),.len (some 15) false (.t 14),.mov (some 16) (.k (.int .i64 0))]⟩]) <|
 .block 0 <|
  .loop <|
   .seq (.ops false [⟨none,[.bin (some 17) .lss (.t 16) (.t 15)]⟩]) <|
   .seq (.cond (.t 17)
    (.skip)
    (.exit 0)) <|
   .seq (.block 1 <|
    .seq (.ops false [⟨none,[.iadr (some 18) 8 (.t 14) (.t 16),.load (some 19) false 8 true (.t 18),.alloc 8 120 [(.int .i64 0),(.str []),(.str []),(.int .i64 0),(.str []),(.int .i64 0),(.str []),(.int .i64 0)],.store 8 (.t 8) (.t 19)]⟩]) <|
    .seq (.ops false [⟨none,[.mov (some 20) (.t 1),.bin (some 21) .neq (.t 20) (.k (.str [])),.mov (some 22) (.t 21)]⟩,
     ⟨some (22,true),[.fadr (some 23) 1 (.t 8),.load (some 24) false 1 false (.t 23),.mov (some 25) (.t 1),.bin (some 26) .eql (.t 24) (.t 25)]⟩,
     ⟨none,[.pick (some 27) (.t 22) (.t 26) (.k (.bool false)),.mov (some 9) (.t 27)]⟩]) <|
    .seq (.ops false [⟨none,[.load (some 28) false 4 true (.t 5),.fadr (some 29) 3 (.t 8),.load (some 30) false 2 true (.t 29),.call (some 31) true 26 [(.t 28),(.k (.int .i64 1)),(.t 30)],.mov (some 32) (.t 31)]⟩,
     ⟨some (32,true),[.mov (some 33) (.t 9),.mov (some 34) (.t 33)]⟩,
     ⟨some (34,false),[.load (some 35) false 4 true (.t 5),.fadr (some 36) 3 (.t 8),.load (some 37) false 2 true (.t 36),.call (some 38) true 26 [(.t 35),(.k (.int .i64 5)),(.t 37)]]⟩,
     ⟨some (32,true),[.pick (some 39) (.t 34) (.k (.bool true)) (.t 38)]⟩,
     ⟨none,[.pick (some 40) (.t 32) (.t 39) (.k (.bool false))]⟩]) <|
    .cond (.t 40)
     (.ops false [⟨none,[.mov (some 41) (.t 6),.load (some 42) false 8 true (.t 8),.mkl (some 43) 8 [(.t 42)],.app 44 120 8 (.t 41) (.t 43),.mov (some 6) (.t 44)]⟩])
     (.skip)) <|
   .ops false [⟨none,[.bin (some 45) .add (.t 16) (.k (.int .i64 1)),.mov (some 16) (.t 45)]⟩]) <|
 .seq (.ops false [⟨none,[.mov (some 46) (.t 6),.mov (some 4) (.t 46)]⟩]) <|
 .ret
def e84:C :=
 .seq (.ops false [⟨none,[.mov (some 4) (.k (.bool false))]⟩]) <|
 .seq (.ops false [⟨none,[.mov (some 5) (.t 0),.mov (some 6) (.t 1),.call (some 7) true 137 [(.t 5),(.t 6)],.bin (some 8) .geq (.t 7) (.k (.int .i64 0)),.mov (some 4) (.t 8)]⟩]) <|
 .ret
def e85:C :=
 .seq (.ops false [⟨none,[.mov (some 4) (.k (.bool false))]⟩]) <|
 .seq (.ops false [⟨none,[.mov (some 5) (.t 0),.mov (some 6) (.t 1),.call (some 7) true 138 [(.t 5),(.t 6)],.bin (some 8) .geq (.t 7) (.k (.int .i64 0)),.mov (some 4) (.t 8)]⟩]) <|
 .ret
def e86:C :=
 .seq (.ops false [⟨none,[.mov (some 5) (.k (.bool false))]⟩]) <|
 .seq (.ops true [⟨none,[.load (some 6) false 1 false (.t 1),.mov (some 7) (.t 6)]⟩,
  ⟨some (7,true),[.mov (some 8) (.t 0),.load (some 9) false 1 false (.t 2),.bin (some 10) .eql (.t 8) (.t 9)]⟩,
  ⟨none,[.pick (some 11) (.t 7) (.t 10) (.k (.bool false)),.mov (some 12) (.t 11)]⟩,
  ⟨some (12,false),[.mov (some 13) (.t 0),.len (some 14) true (.t 13),.bin (some 15) .gtr (.t 14) (.k (.int .i64 0)),.mov (some 16) (.t 15)]⟩,
  ⟨some (16,true),[.mov (some 17) (.t 0),.idx (some 18) (.t 17) (.k (.int .i64 0)),.bin (some 19) .eql (.t 18) (.k (.int .u8 64))]⟩,
  ⟨some (12,false),[.pick (some 20) (.t 16) (.t 19) (.k (.bool false)),.mov (some 21) (.t 20)]⟩,
  ⟨some (21,true),[.load (some 22) false 1 false (.t 3),.mov (some 23) (.t 0),.slcS (some 24) (.t 23) (some (.k (.int .i64 1))) none,.call (some 25) false 84 [(.t 22),(.t 24)]]⟩,
  ⟨some (12,false),[.pick (some 26) (.t 21) (.t 25) (.k (.bool false))]⟩,
  ⟨none,[.pick (some 27) (.t 12) (.k (.bool true)) (.t 26),.mov (some 5) (.t 27)]⟩]) <|
 .ret
def e87:C :=
 .seq (.ops false [⟨none,[.mov (some 3) (.t 0),.len (some 4) false (.t 3),.mov (some 2) (.t 4)]⟩]) <|
 .ops false [⟨none,[.mov (some 5) (.t 0),.mov (some 6) (.t 2),.mov (some 7) (.t 2),.cvt (some 8) .u64 (.t 7),.call (some 9) true 140 [(.t 8)],.ecall (some 10) 11 139 [(.t 5),(.k (.int .i64 0)),(.t 6),(.t 9)]]⟩]
def e94:C :=
 .seq (.ops false [⟨none,[.box 1 41 (.t 0),.mov (some 2) (.k .nils)]⟩]) <|
 .seq (.ops false [⟨none,[.load (some 7) false 2 true (.t 1),.build (some 8) [(.int .i64 0),(.int .i64 0),(.str [])] [(0,1,(.k (.int .i64 3))),(1,2,(.t 7))],.mkv 9 179 3 [(.t 8)],.mov (some 3) (.t 9)]⟩]) <|
 .seq (.ops false [⟨none,[.load (some 10) false 2 true (.t 1),.ecall (some 11) 34 147 [(.t 10)],.mov (some 4) (.t 11)]⟩]) <|
 .seq (.ops false [⟨none,[.mov (some 12) (.t 4),.ecall (some 13) 34 148 [(.t 12)]]⟩]) <|
 .seq (.seq (.ops false [⟨none,[.mov (some 14) (.t 4),.len (some 15) false (.t 14),.mov (some 16) (.k (.int .i64 0))]⟩]) <|
 .block 0 <|
  .loop <|
   .seq (.ops false [⟨none,[.bin (some 17) .lss (.t 16) (.t 15)]⟩]) <|
   .seq (.cond (.t 17)
    (.skip)
    (.exit 0)) <|
   .seq (.block 1 <|
    .seq (.ops false [⟨none,[.iadr (some 18) 2 (.t 14) (.t 16),.load (some 19) false 2 true (.t 18),.alloc 6 41 [(.int .i64 0),(.str [])],.store 2 (.t 6) (.t 19)]⟩]) <|
    .ops false [⟨none,[.mov (some 20) (.t 3),.load (some 21) false 2 true (.t 6),.build (some 22) [(.int .i64 0),(.int .i64 0),(.str [])] [(0,1,(.k (.int .i64 3))),(1,2,(.t 21))],.mkl (some 23) 3 [(.t 22)],.app 24 179 3 (.t 20) (.t 23),.mov (some 3) (.t 24)]⟩]) <|
   .ops false [⟨none,[.bin (some 25) .add (.t 16) (.k (.int .i64 1)),.mov (some 16) (.t 25)]⟩]) <|
 .seq (.ops false [⟨none,[.mov (some 26) (.t 3),.fadr (some 27) 0 (.t 1),.load (some 28) false 1 false (.t 27),.build (some 29) [(.int .i64 0),(.str [])] [(0,1,(.t 28))],.build (some 30) [(.int .i64 0),(.int .i64 0),(.str [])] [(0,1,(.k (.int .i64 2))),(1,2,(.t 29))],.build (some 31) [(.int .i64 0),(.int .i64 0),(.str [])] [(0,1,(.k (.int .i64 1)))],.mkl (some 32) 3 [(.t 30),(.t 31)],.app 33 179 3 (.t 26) (.t 32),.mov (some 2) (.t 33)]⟩]) <|
 .ret
def e95:C :=
 .seq (.ops false [⟨none,[.box 2 179 (.t 0),.box 3 179 (.t 1),.mov (some 4) (.k (.bool false))]⟩]) <|
 .seq (.seq (.ops false [⟨none,[.fadr (some 5) 0 (.t 2),.load (some 6) false 1 false (.t 5),.fadr (some 7) 0 (.t 3),.load (some 8) false 1 false (.t 7),.bin (some 9) .neq (.t 6) (.t 8)]⟩]) <|
 .cond (.t 9)
  (.seq (.ops false [⟨none,[.mov (some 4) (.k (.bool false))]⟩]) <|
  .ret)
  (.skip)) <|
 .seq (.seq (.ops false [⟨none,[.fadr (some 10) 0 (.t 2),.load (some 11) false 1 false (.t 10)]⟩]) <|
 .block 0 <|
  .seq (.ops false [⟨none,[.bin (some 13) .eql (.t 11) (.k (.int .i64 3)),.mov (some 12) (.t 13)]⟩]) <|
  .cond (.t 12)
   (.seq (.ops false [⟨none,[.fadr (some 14) 1 (.t 2),.load (some 15) false 2 true (.t 14),.fadr (some 16) 1 (.t 3),.load (some 17) false 2 true (.t 16),.eqA (some 18) false [0,1] (.t 15) (.t 17),.mov (some 4) (.t 18)]⟩]) <|
   .ret)
   (.seq (.ops false [⟨none,[.bin (some 20) .eql (.t 11) (.k (.int .i64 2)),.mov (some 19) (.t 20)]⟩]) <|
   .cond (.t 19)
    (.seq (.ops false [⟨none,[.fadr (some 21) 1 (.t 2),.fadr (some 22) 0 (.t 21),.load (some 23) false 1 false (.t 22),.fadr (some 24) 1 (.t 3),.fadr (some 25) 0 (.t 24),.load (some 26) false 1 false (.t 25),.bin (some 27) .eql (.t 23) (.t 26),.mov (some 4) (.t 27)]⟩]) <|
    .ret)
    (.skip))) <|
 .seq (.ops false [⟨none,[.mov (some 4) (.k (.bool true))]⟩]) <|
 .ret
def e102:C :=
 .seq (.ops false [⟨none,[.mov (some 4) (.k (.bool false))]⟩]) <|
 .seq (.ops false [⟨none,[.mov (some 8) (.t 1),.call (some 9) true 160 [(.t 8)],.mov (some 7) (.t 9),.ext (some 10) 0 (.t 7),.ext (some 11) 1 (.t 7),.mov (some 5) (.t 10),.mov (some 6) (.t 11)]⟩]) <|
 .seq (.block 0 <|
  .seq (.ops false [⟨none,[.mov (some 13) (.t 5),.bin (some 14) .eql (.t 13) (.k (.str [])),.mov (some 15) (.t 14)]⟩,
   ⟨some (15,false),[.mov (some 16) (.t 5),.idx (some 17) (.t 16) (.k (.int .i64 0)),.bin (some 18) .eql (.t 17) (.k (.int .u8 35))]⟩,
   ⟨none,[.pick (some 19) (.t 15) (.k (.bool true)) (.t 18),.mov (some 12) (.t 19)]⟩]) <|
  .cond (.t 12)
   (.seq (.ops false [⟨none,[.mov (some 4) (.k (.bool true))]⟩]) <|
   .ret)
   (.seq (.ops false [⟨none,[.mov (some 21) (.t 5),.bin (some 22) .eql (.t 21) (.k (.str [103,114,111,117,112])),.mov (some 20) (.t 22)]⟩]) <|
   .cond (.t 20)
    (.seq (.ops false [⟨none,[.mov (some 23) (.t 0),.mov (some 24) (.t 6),.ecall (some 25) 50 161 [(.t 23),(.t 24)],.mov (some 4) (.t 25)]⟩]) <|
    .ret)
    (.seq (.ops false [⟨none,[.mov (some 27) (.t 5),.bin (some 28) .eql (.t 27) (.k (.str [97,108,108,111,119])),.mov (some 29) (.t 28)]⟩,
     ⟨some (29,false),[.mov (some 30) (.t 5),.bin (some 31) .eql (.t 30) (.k (.str [100,101,110,121]))]⟩,
     ⟨none,[.pick (some 32) (.t 29) (.k (.bool true)) (.t 31),.mov (some 26) (.t 32)]⟩]) <|
    .cond (.t 26)
     (.seq (.ops false [⟨none,[.mov (some 33) (.t 0),.mov (some 34) (.t 6),.mov (some 35) (.t 5),.bin (some 36) .eql (.t 35) (.k (.str [97,108,108,111,119])),.ecall (some 37) 50 162 [(.t 33),(.t 34),(.t 36)],.mov (some 4) (.t 37)]⟩]) <|
     .ret)
     (.seq (.ops false [⟨none,[.mov (some 39) (.t 5),.bin (some 40) .eql (.t 39) (.k (.str [103,117,97,114,100])),.mov (some 41) (.t 40)]⟩,
      ⟨some (41,false),[.mov (some 42) (.t 5),.bin (some 43) .eql (.t 42) (.k (.str [115,116,114,105,99,116]))]⟩,
      ⟨none,[.pick (some 44) (.t 41) (.k (.bool true)) (.t 43),.mov (some 38) (.t 44)]⟩]) <|
     .cond (.t 38)
      (.seq (.ops false [⟨none,[.mov (some 45) (.t 0),.mov (some 46) (.t 6),.mov (some 47) (.t 5),.bin (some 48) .eql (.t 47) (.k (.str [115,116,114,105,99,116])),.ecall (some 49) 50 163 [(.t 45),(.t 46),(.t 48)],.mov (some 4) (.t 49)]⟩]) <|
      .ret)
      (.skip))))) <|
 .seq (.ops false [⟨none,[.mov (some 4) (.k (.bool false))]⟩]) <|
 .ret
def e103:C :=
 .seq (.ops false [⟨none,[.box 1 78 (.t 0),.mov (some 2) (.k (.int .i64 0))]⟩]) <|
 .seq (.seq (.ops false [⟨none,[.fadr (some 11) 0 (.t 1),.load (some 12) false 1 false (.t 11),.len (some 13) false (.t 12),.bin (some 14) .gtr (.t 13) (.k (.int .i64 24)),.mov (some 15) (.t 14)]⟩,
  ⟨some (15,false),[.fadr (some 16) 1 (.t 1),.load (some 17) false 1 false (.t 16),.len (some 18) false (.t 17),.bin (some 19) .gtr (.t 18) (.k (.int .i64 64))]⟩,
  ⟨none,[.pick (some 20) (.t 15) (.k (.bool true)) (.t 19),.mov (some 21) (.t 20)]⟩,
  ⟨some (21,false),[.fadr (some 22) 2 (.t 1),.load (some 23) false 1 false (.t 22),.len (some 24) false (.t 23),.bin (some 25) .gtr (.t 24) (.k (.int .i64 64))]⟩,
  ⟨none,[.pick (some 26) (.t 21) (.k (.bool true)) (.t 25)]⟩]) <|
 .cond (.t 26)
  (.seq (.ops false [⟨none,[.mov (some 2) (.k (.int .i64 3))]⟩]) <|
  .ret)
  (.skip)) <|
 .seq (.seq (.ops false [⟨none,[.fadr (some 27) 0 (.t 1),.load (some 28) false 1 false (.t 27),.len (some 29) false (.t 28),.mov (some 30) (.k (.int .i64 0))]⟩]) <|
 .block 0 <|
  .loop <|
   .seq (.ops false [⟨none,[.bin (some 31) .lss (.t 30) (.t 29)]⟩]) <|
   .seq (.cond (.t 31)
    (.skip)
    (.exit 0)) <|
   .seq (.block 1 <|
    .seq (.ops false [⟨none,[.mov (some 32) (.t 30),.mov (some 3) (.t 32)]⟩]) <|
    .seq (.ops false [⟨none,[.load (some 33) false 3 true (.t 1),.mov (some 34) (.t 3),.call (some 35) true 164 [(.t 33),(.t 34)],.mov (some 4) (.t 35)]⟩]) <|
    .seq (.ops false [⟨none,[.mov (some 36) (.t 4),.bin (some 37) .neq (.t 36) (.k (.int .i64 0))]⟩]) <|
    .cond (.t 37)
     (.seq (.ops false [⟨none,[.mov (some 38) (.t 4),.mov (some 2) (.t 38)]⟩]) <|
     .ret)
     (.skip)) <|
   .ops false [⟨none,[.bin (some 39) .add (.t 30) (.k (.int .i64 1)),.mov (some 30) (.t 39)]⟩]) <|
 .seq (.seq (.ops false [⟨none,[.fadr (some 40) 1 (.t 1),.load (some 41) false 1 false (.t 40),.len (some 42) false (.t 41),.mov (some 43) (.k (.int .i64 0))]⟩]) <|
 .block 2 <|
  .loop <|
   .seq (.ops false [⟨none,[.bin (some 44) .lss (.t 43) (.t 42)]⟩]) <|
   .seq (.cond (.t 44)
    (.skip)
    (.exit 2)) <|
   .seq (.block 3 <|
    .seq (.ops false [⟨none,[.iadr (some 45) 6 (.t 41) (.t 43),.load (some 46) false 6 true (.t 45),.alloc 6 181 [(.bool false),(.int .i64 0),(.str []),(.int .i64 0),(.int .i64 0),(.str [])],.store 6 (.t 6) (.t 46)]⟩]) <|
    .seq (.ops false [⟨none,[.load (some 47) false 3 true (.t 1),.load (some 48) false 6 true (.t 6),.call (some 49) true 165 [(.t 47),(.t 48)],.mov (some 7) (.t 49)]⟩]) <|
    .seq (.ops false [⟨none,[.mov (some 50) (.t 7),.bin (some 51) .neq (.t 50) (.k (.int .i64 0))]⟩]) <|
    .cond (.t 51)
     (.seq (.ops false [⟨none,[.mov (some 52) (.t 7),.mov (some 2) (.t 52)]⟩]) <|
     .ret)
     (.skip)) <|
   .ops false [⟨none,[.bin (some 53) .add (.t 43) (.k (.int .i64 1)),.mov (some 43) (.t 53)]⟩]) <|
 .seq (.seq (.ops false [⟨none,[.fadr (some 54) 2 (.t 1),.load (some 55) false 1 false (.t 54),.len (some 56) false (.t 55),.mov (some 57) (.k (.int .i64 0))]⟩]) <|
 .block 4 <|
  .loop <|
   .seq (.ops false [⟨none,[.bin (some 58) .lss (.t 57) (.t 56)]⟩]) <|
   .seq (.cond (.t 58)
    (.skip)
    (.exit 4)) <|
   .seq (.block 5 <|
    .seq (.ops false [⟨none,[.iadr (some 59) 5 (.t 55) (.t 57),.load (some 60) false 5 true (.t 59),.alloc 9 198 [(.bool false),(.str []),(.int .i64 0),(.str []),(.str [])],.store 5 (.t 9) (.t 60)]⟩]) <|
    .seq (.ops false [⟨none,[.load (some 61) false 3 true (.t 1),.load (some 62) false 5 true (.t 9),.call (some 63) true 166 [(.t 61),(.t 62)],.mov (some 10) (.t 63)]⟩]) <|
    .seq (.ops false [⟨none,[.mov (some 64) (.t 10),.bin (some 65) .neq (.t 64) (.k (.int .i64 0))]⟩]) <|
    .cond (.t 65)
     (.seq (.ops false [⟨none,[.mov (some 66) (.t 10),.mov (some 2) (.t 66)]⟩]) <|
     .ret)
     (.skip)) <|
   .ops false [⟨none,[.bin (some 67) .add (.t 57) (.k (.int .i64 1)),.mov (some 57) (.t 67)]⟩]) <|
 .seq (.ops false [⟨none,[.mov (some 2) (.k (.int .i64 0))]⟩]) <|
 .ret
def e104:C :=
 .seq (.ops false [⟨none,[.mov (some 2) (.k .nils)]⟩]) <|
 .seq (.seq (.ops false [⟨none,[.mov (some 3) (.t 0),.isnil (some 4) false 1 (.t 3)]⟩]) <|
 .cond (.t 4)
  (.seq (.ops false [⟨none,[.mov (some 2) (.k .nils)]⟩]) <|
  .ret)
  (.skip)) <|
 .seq (.ops false [⟨none,[.mkv 5 66 6 [],.mov (some 6) (.t 0),.app 7 66 6 (.t 5) (.t 6),.mov (some 2) (.t 7)]⟩]) <|
 .ret
def e105:C :=
 .seq (.ops false [⟨none,[.box 3 198 (.t 0),.mov (some 6) (.k (.bool false))]⟩]) <|
 .seq (.seq (.ops false [⟨none,[.fadr (some 11) 4 (.t 3),.load (some 12) false 1 false (.t 11),.bin (some 13) .eql (.t 12) (.k (.str []))]⟩]) <|
 .cond (.t 13)
  (.seq (.ops false [⟨none,[.mov (some 14) (.t 1),.mov (some 15) (.t 2),.bin (some 16) .neq (.t 14) (.t 15),.mov (some 6) (.t 16)]⟩]) <|
  .ret)
  (.skip)) <|
 .seq (.ops false [⟨none,[.mov (some 18) (.t 1),.fadr (some 19) 4 (.t 3),.load (some 20) false 1 false (.t 19),.call (some 21) true 167 [(.t 18),(.t 20)],.mov (some 17) (.t 21),.ext (some 22) 0 (.t 17),.ext (some 23) 1 (.t 17),.mov (some 7) (.t 22),.mov (some 8) (.t 23)]⟩]) <|
 .seq (.ops false [⟨none,[.mov (some 25) (.t 2),.fadr (some 26) 4 (.t 3),.load (some 27) false 1 false (.t 26),.call (some 28) true 167 [(.t 25),(.t 27)],.mov (some 24) (.t 28),.ext (some 29) 0 (.t 24),.ext (some 30) 1 (.t 24),.mov (some 9) (.t 29),.mov (some 10) (.t 30)]⟩]) <|
 .seq (.ops false [⟨none,[.mov (some 31) (.t 8),.mov (some 32) (.t 10),.eqB (some 33) true (.t 31) (.t 32),.mov (some 34) (.t 33)]⟩,
  ⟨some (34,false),[.mov (some 35) (.t 7),.mov (some 36) (.t 9),.bin (some 37) .neq (.t 35) (.t 36)]⟩,
  ⟨none,[.pick (some 38) (.t 34) (.k (.bool true)) (.t 37),.mov (some 6) (.t 38)]⟩]) <|
 .ret
def e121:C :=
 .seq (.ops false [⟨none,[.box 1 41 (.t 0),.mov (some 2) (.k (.bool false))]⟩]) <|
 .seq (.ops false [⟨none,[.fadr (some 9) 1 (.t 1),.load (some 10) false 1 false (.t 9),.mov (some 3) (.t 10)]⟩]) <|
 .seq (.seq (.ops false [⟨none,[.fadr (some 11) 0 (.t 1),.load (some 12) false 1 false (.t 11),.bin (some 13) .lss (.t 12) (.k (.int .i64 0)),.mov (some 14) (.t 13)]⟩,
  ⟨some (14,false),[.fadr (some 15) 0 (.t 1),.load (some 16) false 1 false (.t 15),.bin (some 17) .geq (.t 16) (.k (.int .i64 6))]⟩,
  ⟨none,[.pick (some 18) (.t 14) (.k (.bool true)) (.t 17),.mov (some 19) (.t 18)]⟩,
  ⟨some (19,false),[.mov (some 20) (.t 3),.len (some 21) true (.t 20),.bin (some 22) .lss (.t 21) (.k (.int .i64 1))]⟩,
  ⟨none,[.pick (some 23) (.t 19) (.k (.bool true)) (.t 22),.mov (some 24) (.t 23)]⟩,
  ⟨some (24,false),[.mov (some 25) (.t 3),.len (some 26) true (.t 25),.bin (some 27) .gtr (.t 26) (.k (.int .i64 100))]⟩,
  ⟨none,[.pick (some 28) (.t 24) (.k (.bool true)) (.t 27)]⟩]) <|
 .cond (.t 28)
  (.seq (.ops false [⟨none,[.mov (some 2) (.k (.bool false))]⟩]) <|
  .ret)
  (.skip)) <|
 .seq (.seq (.ops false [⟨none,[.mov (some 4) (.k (.int .i64 0))]⟩]) <|
 .block 0 <|
  .loop <|
   .seq (.seq (.ops false [⟨none,[.mov (some 29) (.t 4),.mov (some 30) (.t 3),.len (some 31) true (.t 30),.bin (some 32) .lss (.t 29) (.t 31)]⟩]) <|
   .cond (.t 32)
    (.skip)
    (.exit 0)) <|
   .seq (.block 1 <|
    .seq (.ops false [⟨none,[.mov (some 35) (.t 3),.mov (some 36) (.t 4),.idx (some 37) (.t 35) (.t 36),.bin (some 38) .lss (.t 37) (.k (.int .u8 32)),.mov (some 39) (.t 38)]⟩,
     ⟨some (39,false),[.mov (some 40) (.t 3),.mov (some 41) (.t 4),.idx (some 42) (.t 40) (.t 41),.bin (some 43) .eql (.t 42) (.k (.int .u8 127))]⟩,
     ⟨none,[.pick (some 44) (.t 39) (.k (.bool true)) (.t 43),.mov (some 45) (.t 44)]⟩,
     ⟨some (45,false),[.mov (some 46) (.t 3),.mov (some 47) (.t 4),.mov (some 48) (.t 4),.bin (some 49) .add (.t 48) (.k (.int .i64 1)),.slcS (some 50) (.t 46) (some (.t 47)) (some (.t 49)),.call (some 51) true 169 [(.k (.str [60,62,91,93,123,125,124,35,95])),(.t 50),(.k (.int .i64 0))],.bin (some 52) .geq (.t 51) (.k (.int .i64 0))]⟩,
     ⟨none,[.pick (some 53) (.t 45) (.k (.bool true)) (.t 52),.mov (some 54) (.t 53)]⟩,
     ⟨some (54,false),[.mov (some 55) (.t 3),.mov (some 56) (.t 4),.idx (some 57) (.t 55) (.t 56),.bin (some 58) .eql (.t 57) (.k (.int .u8 32)),.mov (some 59) (.t 58)]⟩,
     ⟨some (59,true),[.mov (some 60) (.t 4),.bin (some 61) .gtr (.t 60) (.k (.int .i64 0))]⟩,
     ⟨some (54,false),[.pick (some 62) (.t 59) (.t 61) (.k (.bool false)),.mov (some 63) (.t 62)]⟩,
     ⟨some (63,true),[.mov (some 64) (.t 3),.mov (some 65) (.t 4),.bin (some 66) .sub (.t 65) (.k (.int .i64 1)),.idx (some 67) (.t 64) (.t 66),.bin (some 68) .eql (.t 67) (.k (.int .u8 32))]⟩,
     ⟨some (54,false),[.pick (some 69) (.t 63) (.t 68) (.k (.bool false))]⟩,
     ⟨none,[.pick (some 70) (.t 54) (.k (.bool true)) (.t 69)]⟩]) <|
    .cond (.t 70)
     (.seq (.ops false [⟨none,[.mov (some 2) (.k (.bool false))]⟩]) <|
     .ret)
     (.skip)) <|
   .ops false [⟨none,[.mov (some 33) (.t 4),.bin (some 34) .add (.t 33) (.k (.int .i64 1)),.mov (some 4) (.t 34)]⟩]) <|
 .seq (.ops false [⟨none,[.mov (some 71) (.t 3),.call (some 72) true 174 [(.t 71)],.mov (some 5) (.t 72)]⟩]) <|
 .seq (.seq (.ops false [⟨none,[.mov (some 6) (.k (.int .i64 0))]⟩]) <|
 .block 2 <|
  .loop <|
   .seq (.seq (.ops false [⟨none,[.mov (some 73) (.t 6),.mov (some 74) (.t 5),.len (some 75) false (.t 74),.bin (some 76) .lss (.t 73) (.t 75)]⟩]) <|
   .cond (.t 76)
    (.skip)
    (.exit 2)) <|
   .seq (.block 3 <|
    .seq (.ops true [⟨none,[.mov (some 79) (.t 5),.mov (some 80) (.t 6),.iadr (some 81) 1 (.t 79) (.t 80),.load (some 82) false 1 false (.t 81),.bin (some 83) .eql (.t 82) (.k (.str [])),.mov (some 84) (.t 83)]⟩,
     ⟨some (84,false),[.mov (some 85) (.t 5),.mov (some 86) (.t 6),.iadr (some 87) 1 (.t 85) (.t 86),.load (some 88) false 1 false (.t 87),.idx (some 89) (.t 88) (.k (.int .i64 0)),.bin (some 90) .eql (.t 89) (.k (.int .u8 32))]⟩,
     ⟨none,[.pick (some 91) (.t 84) (.k (.bool true)) (.t 90),.mov (some 92) (.t 91)]⟩,
     ⟨some (92,false),[.mov (some 93) (.t 5),.mov (some 94) (.t 6),.iadr (some 95) 1 (.t 93) (.t 94),.load (some 96) false 1 false (.t 95),.mov (some 97) (.t 5),.mov (some 98) (.t 6),.iadr (some 99) 1 (.t 97) (.t 98),.load (some 100) false 1 false (.t 99),.len (some 101) true (.t 100),.bin (some 102) .sub (.t 101) (.k (.int .i64 1)),.idx (some 103) (.t 96) (.t 102),.bin (some 104) .eql (.t 103) (.k (.int .u8 32))]⟩,
     ⟨none,[.pick (some 105) (.t 92) (.k (.bool true)) (.t 104)]⟩]) <|
    .cond (.t 105)
     (.seq (.ops false [⟨none,[.mov (some 2) (.k (.bool false))]⟩]) <|
     .ret)
     (.skip)) <|
   .ops false [⟨none,[.mov (some 77) (.t 6),.bin (some 78) .add (.t 77) (.k (.int .i64 1)),.mov (some 6) (.t 78)]⟩]) <|
 .seq (.seq (.ops false [⟨none,[.mov (some 106) (.t 3),.idx (some 107) (.t 106) (.k (.int .i64 0)),.bin (some 108) .eql (.t 107) (.k (.int .u8 58)),.mov (some 109) (.t 108)]⟩,
  ⟨some (109,false),[.mov (some 110) (.t 3),.idx (some 111) (.t 110) (.k (.int .i64 0)),.bin (some 112) .geq (.t 111) (.k (.int .u8 97)),.mov (some 113) (.t 112)]⟩,
  ⟨some (113,true),[.mov (some 114) (.t 3),.idx (some 115) (.t 114) (.k (.int .i64 0)),.bin (some 116) .leq (.t 115) (.k (.int .u8 122))]⟩,
  ⟨some (109,false),[.pick (some 117) (.t 113) (.t 116) (.k (.bool false))]⟩,
  ⟨none,[.pick (some 118) (.t 109) (.k (.bool true)) (.t 117)]⟩]) <|
 .cond (.t 118)
  (.seq (.ops false [⟨none,[.mov (some 2) (.k (.bool false))]⟩]) <|
  .ret)
  (.skip)) <|
 .seq (.ops false [⟨none,[.mov (some 120) (.t 3),.call (some 121) true 175 [(.t 120)],.mov (some 119) (.t 121),.ext (some 122) 0 (.t 119),.ext (some 123) 1 (.t 119),.mov (some 7) (.t 122),.mov (some 8) (.t 123)]⟩]) <|
 .seq (.ops false [⟨none,[.fadr (some 124) 0 (.t 1),.load (some 125) false 1 false (.t 124),.bin (some 126) .neq (.t 125) (.k (.int .i64 0)),.mov (some 127) (.t 126)]⟩,
  ⟨some (127,false),[.mov (some 128) (.t 7),.bin (some 129) .eql (.t 128) (.k (.int .i64 0))]⟩,
  ⟨none,[.pick (some 130) (.t 127) (.k (.bool true)) (.t 129),.mov (some 2) (.t 130)]⟩]) <|
 .ret
def e122:C :=
 .seq (.ops false [⟨none,[.box 2 29 (.t 0),.mov (some 4) (.k (.bool false))]⟩]) <|
 .seq (.seq (.ops false [⟨none,[.mov (some 9) (.t 1),.len (some 10) false (.t 9),.bin (some 11) .lss (.t 10) (.k (.int .i64 1)),.mov (some 12) (.t 11)]⟩,
  ⟨some (12,false),[.mov (some 13) (.t 1),.len (some 14) false (.t 13),.bin (some 15) .gtr (.t 14) (.k (.int .i64 40))]⟩,
  ⟨none,[.pick (some 16) (.t 12) (.k (.bool true)) (.t 15)]⟩]) <|
 .cond (.t 16)
  (.seq (.ops false [⟨none,[.mov (some 4) (.k (.bool false))]⟩]) <|
  .ret)
  (.skip)) <|
 .seq (.ops false [⟨none,[.mov (some 5) (.k (.int .i64 0)),.mov (some 6) (.k (.int .i64 1))]⟩]) <|
 .seq (.seq (.ops false [⟨none,[.mov (some 7) (.k (.int .i64 0))]⟩]) <|
 .block 0 <|
  .loop <|
   .seq (.seq (.ops false [⟨none,[.mov (some 17) (.t 7),.mov (some 18) (.t 1),.len (some 19) false (.t 18),.bin (some 20) .lss (.t 17) (.t 19)]⟩]) <|
   .cond (.t 20)
    (.skip)
    (.exit 0)) <|
   .seq (.block 1 <|
    .seq (.ops false [⟨none,[.mov (some 23) (.t 1),.mov (some 24) (.t 7),.iadr (some 25) 6 (.t 23) (.t 24),.load (some 26) false 6 true (.t 25),.alloc 8 66 [(.int .i64 0),(.str []),(.str []),(.str []),(.int .i64 0),(.int .i64 0)],.store 6 (.t 8) (.t 26)]⟩]) <|
    .seq (.seq (.ops false [⟨none,[.fadr (some 27) 0 (.t 8),.load (some 28) false 1 false (.t 27),.mov (some 29) (.t 7),.bin (some 30) .add (.t 29) (.k (.int .i64 1)),.bin (some 31) .neq (.t 28) (.t 30),.mov (some 32) (.t 31)]⟩,
     ⟨some (32,false),[.fadr (some 33) 3 (.t 8),.load (some 34) false 1 false (.t 33),.len (some 35) true (.t 34),.bin (some 36) .gtr (.t 35) (.k (.int .i64 8192))]⟩,
     ⟨none,[.pick (some 37) (.t 32) (.k (.bool true)) (.t 36),.mov (some 38) (.t 37)]⟩,
     ⟨some (38,false),[.fadr (some 39) 2 (.t 8),.load (some 40) false 1 false (.t 39),.len (some 41) true (.t 40),.bin (some 42) .gtr (.t 41) (.k (.int .i64 200))]⟩,
     ⟨none,[.pick (some 43) (.t 38) (.k (.bool true)) (.t 42),.mov (some 44) (.t 43)]⟩,
     ⟨some (44,false),[.fadr (some 45) 1 (.t 8),.load (some 46) false 1 false (.t 45),.call (some 47) true 124 [(.t 46)],.un (some 48) .not (.t 47)]⟩,
     ⟨none,[.pick (some 49) (.t 44) (.k (.bool true)) (.t 48),.mov (some 50) (.t 49)]⟩,
     ⟨some (50,false),[.fadr (some 51) 4 (.t 8),.load (some 52) false 1 false (.t 51),.mov (some 53) (.t 5),.bin (some 54) .lss (.t 52) (.t 53)]⟩,
     ⟨none,[.pick (some 55) (.t 50) (.k (.bool true)) (.t 54),.mov (some 56) (.t 55)]⟩,
     ⟨some (56,false),[.fadr (some 57) 4 (.t 8),.load (some 58) false 1 false (.t 57),.fadr (some 59) 1 (.t 2),.load (some 60) false 1 false (.t 59),.bin (some 61) .gtr (.t 58) (.t 60)]⟩,
     ⟨none,[.pick (some 62) (.t 56) (.k (.bool true)) (.t 61),.mov (some 63) (.t 62)]⟩,
     ⟨some (63,false),[.fadr (some 64) 5 (.t 8),.load (some 65) false 1 false (.t 64),.mov (some 66) (.t 6),.bin (some 67) .lss (.t 65) (.t 66)]⟩,
     ⟨none,[.pick (some 68) (.t 63) (.k (.bool true)) (.t 67),.mov (some 69) (.t 68)]⟩,
     ⟨some (69,false),[.fadr (some 70) 5 (.t 8),.load (some 71) false 1 false (.t 70),.fadr (some 72) 0 (.t 2),.load (some 73) false 1 false (.t 72),.bin (some 74) .gtr (.t 71) (.t 73)]⟩,
     ⟨none,[.pick (some 75) (.t 69) (.k (.bool true)) (.t 74)]⟩]) <|
    .cond (.t 75)
     (.seq (.ops false [⟨none,[.mov (some 4) (.k (.bool false))]⟩]) <|
     .ret)
     (.skip)) <|
    .ops true [⟨none,[.fadr (some 76) 4 (.t 8),.load (some 77) false 1 false (.t 76),.fadr (some 78) 5 (.t 8),.load (some 79) false 1 false (.t 78),.mov (some 5) (.t 77),.mov (some 6) (.t 79)]⟩]) <|
   .ops false [⟨none,[.mov (some 21) (.t 7),.bin (some 22) .add (.t 21) (.k (.int .i64 1)),.mov (some 7) (.t 22)]⟩]) <|
 .seq (.ops false [⟨none,[.mov (some 4) (.k (.bool true))]⟩]) <|
 .ret
def e123:C :=
 .seq (.ops false [⟨none,[.box 2 41 (.t 0),.box 3 41 (.t 1),.mov (some 4) (.k (.int .i64 0))]⟩]) <|
 .seq (.block 0 <|
  .seq (.ops false [⟨none,[.fadr (some 6) 0 (.t 2),.load (some 7) false 1 false (.t 6),.fadr (some 8) 0 (.t 3),.load (some 9) false 1 false (.t 8),.bin (some 10) .lss (.t 7) (.t 9),.mov (some 11) (.t 10)]⟩,
   ⟨some (11,false),[.fadr (some 12) 0 (.t 2),.load (some 13) false 1 false (.t 12),.fadr (some 14) 0 (.t 3),.load (some 15) false 1 false (.t 14),.bin (some 16) .eql (.t 13) (.t 15),.mov (some 17) (.t 16)]⟩,
   ⟨some (17,true),[.fadr (some 18) 1 (.t 2),.load (some 19) false 1 false (.t 18),.fadr (some 20) 1 (.t 3),.load (some 21) false 1 false (.t 20),.bin (some 22) .lss (.t 19) (.t 21)]⟩,
   ⟨some (11,false),[.pick (some 23) (.t 17) (.t 22) (.k (.bool false))]⟩,
   ⟨none,[.pick (some 24) (.t 11) (.k (.bool true)) (.t 23),.mov (some 5) (.t 24)]⟩]) <|
  .cond (.t 5)
   (.seq (.ops false [⟨none,[.mov (some 4) (.k (.int .i64 (-1)))]⟩]) <|
   .ret)
   (.seq (.ops false [⟨none,[.load (some 26) false 2 true (.t 2),.load (some 27) false 2 true (.t 3),.eqA (some 28) false [0,1] (.t 26) (.t 27),.mov (some 25) (.t 28)]⟩]) <|
   .cond (.t 25)
    (.seq (.ops false [⟨none,[.mov (some 4) (.k (.int .i64 0))]⟩]) <|
    .ret)
    (.skip))) <|
 .seq (.ops false [⟨none,[.mov (some 4) (.k (.int .i64 1))]⟩]) <|
 .ret
def e124:C :=
 .seq (.ops false [⟨none,[.mov (some 2) (.k (.bool false))]⟩]) <|
 .seq (.ops false [⟨none,[.mov (some 3) (.t 0),.bin (some 4) .eql (.t 3) (.k (.str [])),.mov (some 5) (.t 4)]⟩,
  ⟨some (5,false),[.mov (some 6) (.t 0),.call (some 7) true 125 [(.t 6)]]⟩,
  ⟨none,[.pick (some 8) (.t 5) (.k (.bool true)) (.t 7),.mov (some 2) (.t 8)]⟩]) <|
 .ret
def e125:C :=
 .seq (.ops false [⟨none,[.mov (some 2) (.k (.bool false))]⟩]) <|
 .seq (.seq (.ops false [⟨none,[.mov (some 5) (.t 0),.len (some 6) true (.t 5),.bin (some 7) .lss (.t 6) (.k (.int .i64 1)),.mov (some 8) (.t 7)]⟩,
  ⟨some (8,false),[.mov (some 9) (.t 0),.len (some 10) true (.t 9),.bin (some 11) .gtr (.t 10) (.k (.int .i64 30))]⟩,
  ⟨none,[.pick (some 12) (.t 8) (.k (.bool true)) (.t 11),.mov (some 13) (.t 12)]⟩,
  ⟨some (13,false),[.mov (some 14) (.t 0),.idx (some 15) (.t 14) (.k (.int .i64 0)),.bin (some 16) .lss (.t 15) (.k (.int .u8 97))]⟩,
  ⟨none,[.pick (some 17) (.t 13) (.k (.bool true)) (.t 16),.mov (some 18) (.t 17)]⟩,
  ⟨some (18,false),[.mov (some 19) (.t 0),.idx (some 20) (.t 19) (.k (.int .i64 0)),.bin (some 21) .gtr (.t 20) (.k (.int .u8 122))]⟩,
  ⟨none,[.pick (some 22) (.t 18) (.k (.bool true)) (.t 21)]⟩]) <|
 .cond (.t 22)
  (.seq (.ops false [⟨none,[.mov (some 2) (.k (.bool false))]⟩]) <|
  .ret)
  (.skip)) <|
 .seq (.seq (.ops false [⟨none,[.mov (some 3) (.k (.int .i64 0))]⟩]) <|
 .block 0 <|
  .loop <|
   .seq (.seq (.ops false [⟨none,[.mov (some 23) (.t 3),.mov (some 24) (.t 0),.len (some 25) true (.t 24),.bin (some 26) .lss (.t 23) (.t 25)]⟩]) <|
   .cond (.t 26)
    (.skip)
    (.exit 0)) <|
   .seq (.block 1 <|
    .seq (.ops false [⟨none,[.mov (some 29) (.t 0),.mov (some 30) (.t 3),.idx (some 31) (.t 29) (.t 30),.mov (some 4) (.t 31)]⟩]) <|
    .seq (.ops false [⟨none,[.mov (some 32) (.t 4),.bin (some 33) .lss (.t 32) (.k (.int .u8 97)),.mov (some 34) (.t 33)]⟩,
     ⟨some (34,false),[.mov (some 35) (.t 4),.bin (some 36) .gtr (.t 35) (.k (.int .u8 122))]⟩,
     ⟨none,[.pick (some 37) (.t 34) (.k (.bool true)) (.t 36),.mov (some 38) (.t 37)]⟩,
     ⟨some (38,true),[.mov (some 39) (.t 4),.bin (some 40) .lss (.t 39) (.k (.int .u8 48)),.mov (some 41) (.t 40)]⟩,
     ⟨some (41,false),[.mov (some 42) (.t 4),.bin (some 43) .gtr (.t 42) (.k (.int .u8 57))]⟩,
     ⟨some (38,true),[.pick (some 44) (.t 41) (.k (.bool true)) (.t 43)]⟩,
     ⟨none,[.pick (some 45) (.t 38) (.t 44) (.k (.bool false)),.mov (some 46) (.t 45)]⟩,
     ⟨some (46,true),[.mov (some 47) (.t 4),.bin (some 48) .neq (.t 47) (.k (.int .u8 45))]⟩,
     ⟨none,[.pick (some 49) (.t 46) (.t 48) (.k (.bool false)),.mov (some 50) (.t 49)]⟩,
     ⟨some (50,true),[.mov (some 51) (.t 4),.bin (some 52) .neq (.t 51) (.k (.int .u8 95))]⟩,
     ⟨none,[.pick (some 53) (.t 50) (.t 52) (.k (.bool false))]⟩]) <|
    .cond (.t 53)
     (.seq (.ops false [⟨none,[.mov (some 2) (.k (.bool false))]⟩]) <|
     .ret)
     (.skip)) <|
   .ops false [⟨none,[.mov (some 27) (.t 3),.bin (some 28) .add (.t 27) (.k (.int .i64 1)),.mov (some 3) (.t 28)]⟩]) <|
 .seq (.ops false [⟨none,[.mov (some 2) (.k (.bool true))]⟩]) <|
 .ret
def e127:C :=
 .seq (.ops false [⟨none,[.mov (some 2) (.k (.bool false))]⟩]) <|
 .seq (.ops false [⟨none,[.mov (some 3) (.t 0),.bin (some 4) .eql (.t 3) (.k (.str [])),.mov (some 5) (.t 4)]⟩,
  ⟨some (5,false),[.mov (some 6) (.t 0),.call (some 7) true 125 [(.t 6)]]⟩,
  ⟨none,[.pick (some 8) (.t 5) (.k (.bool true)) (.t 7),.mov (some 2) (.t 8)]⟩]) <|
 .ret
def e129:C :=
 .seq (.ops false [⟨none,[.box 3 62 (.t 1),.mov (some 4) (.k .nils)]⟩]) <|
 .seq (.ops false [⟨none,[.mov (some 5) (.k .nils)]⟩]) <|
 .seq (.ops false [⟨none,[.mov (some 6) (.k (.int .i64 0))]⟩]) <|
 .seq (.block 0 <|
  .loop <|
   .seq (.seq (.ops true [⟨none,[.mov (some 7) (.t 6),.mov (some 8) (.t 0),.len (some 9) false (.t 8),.bin (some 10) .lss (.t 7) (.t 9),.mov (some 11) (.t 10)]⟩,
    ⟨some (11,true),[.mov (some 12) (.t 0),.mov (some 13) (.t 6),.iadr (some 14) 3 (.t 12) (.t 13),.fadr (some 15) 0 (.t 14),.load (some 16) false 2 true (.t 15),.fadr (some 17) 0 (.t 3),.load (some 18) false 2 true (.t 17),.call (some 19) true 123 [(.t 16),(.t 18)],.bin (some 20) .lss (.t 19) (.k (.int .i64 0))]⟩,
    ⟨none,[.pick (some 21) (.t 11) (.t 20) (.k (.bool false))]⟩]) <|
   .cond (.t 21)
    (.skip)
    (.exit 0)) <|
   .block 1 <|
    .seq (.ops false [⟨none,[.mov (some 22) (.t 5),.mov (some 23) (.t 0),.mov (some 24) (.t 6),.iadr (some 25) 3 (.t 23) (.t 24),.load (some 26) false 3 true (.t 25),.mkl (some 27) 3 [(.t 26)],.app 28 62 3 (.t 22) (.t 27),.mov (some 5) (.t 28)]⟩]) <|
    .ops false [⟨none,[.mov (some 29) (.t 6),.bin (some 30) .add (.t 29) (.k (.int .i64 1)),.mov (some 6) (.t 30)]⟩]) <|
 .seq (.ops false [⟨none,[.mov (some 31) (.t 5),.load (some 32) false 3 true (.t 3),.mkl (some 33) 3 [(.t 32)],.app 34 62 3 (.t 31) (.t 33),.mov (some 5) (.t 34)]⟩]) <|
 .seq (.ops false [⟨none,[.mov (some 35) (.t 5),.mov (some 36) (.t 0),.mov (some 37) (.t 6),.slc (some 38) 3 (.t 36) (some (.t 37)) none,.app 39 62 3 (.t 35) (.t 38),.mov (some 4) (.t 39)]⟩]) <|
 .ret
def e134:C :=
 .seq (.ops false [⟨none,[.mov (some 2) (.k .nils)]⟩]) <|
 .seq (.ops false [⟨none,[.mkv 6 9 1 [],.mov (some 3) (.t 6)]⟩]) <|
 .seq (.ops false [⟨none,[.mov (some 4) (.k (.int .i64 0))]⟩]) <|
 .seq (.seq (.ops false [⟨none,[.mov (some 5) (.k (.int .i64 0))]⟩]) <|
 .block 0 <|
  .loop <|
   .seq (.seq (.ops false [⟨none,[.mov (some 7) (.t 5),.mov (some 8) (.t 0),.len (some 9) true (.t 8),.bin (some 10) .lss (.t 7) (.t 9)]⟩]) <|
   .cond (.t 10)
    (.skip)
    (.exit 0)) <|
   .seq (.block 1 <|
    .seq (.ops false [⟨none,[.mov (some 13) (.t 0),.mov (some 14) (.t 5),.idx (some 15) (.t 13) (.t 14),.bin (some 16) .eql (.t 15) (.k (.int .u8 10))]⟩]) <|
    .cond (.t 16)
     (.seq (.ops false [⟨none,[.mov (some 17) (.t 3),.mov (some 18) (.t 0),.mov (some 19) (.t 4),.mov (some 20) (.t 5),.slcS (some 21) (.t 18) (some (.t 19)) (some (.t 20)),.mkl (some 22) 1 [(.t 21)],.app 23 9 1 (.t 17) (.t 22),.mov (some 3) (.t 23)]⟩]) <|
     .ops false [⟨none,[.mov (some 24) (.t 5),.bin (some 25) .add (.t 24) (.k (.int .i64 1)),.mov (some 4) (.t 25)]⟩])
     (.skip)) <|
   .ops false [⟨none,[.mov (some 11) (.t 5),.bin (some 12) .add (.t 11) (.k (.int .i64 1)),.mov (some 5) (.t 12)]⟩]) <|
 .seq (.ops false [⟨none,[.mov (some 26) (.t 3),.mov (some 27) (.t 0),.mov (some 28) (.t 4),.slcS (some 29) (.t 27) (some (.t 28)) none,.mkl (some 30) 1 [(.t 29)],.app 31 9 1 (.t 26) (.t 30),.mov (some 2) (.t 31)]⟩]) <|
 .ret
def e135:C :=
 .seq (.ops false [⟨none,[.box 2 78 (.t 0),.alloc 4 78 [.nils,.nils,.nils],.mov (some 5) (.k (.bool false))]⟩]) <|
 .seq (.ops false [⟨none,[.mov (some 12) (.t 1),.call (some 13) true 177 [(.t 12)],.mov (some 6) (.t 13)]⟩]) <|
 .seq (.seq (.ops false [⟨none,[.mov (some 14) (.t 6),.len (some 15) false (.t 14),.bin (some 16) .eql (.t 15) (.k (.int .i64 0)),.mov (some 17) (.t 16)]⟩,
  ⟨some (17,false),[.mov (some 18) (.t 6),.iadr (some 19) 1 (.t 18) (.k (.int .i64 0)),.load (some 20) false 1 false (.t 19),.idx (some 21) (.t 20) (.k (.int .i64 0)),.bin (some 22) .eql (.t 21) (.k (.int .u8 35))]⟩,
  ⟨none,[.pick (some 23) (.t 17) (.k (.bool true)) (.t 22)]⟩]) <|
 .cond (.t 23)
  (.seq (.ops false [⟨none,[.load (some 24) false 3 true (.t 2),.store 3 (.t 4) (.t 24),.mov (some 5) (.k (.bool true))]⟩]) <|
  .ret)
  (.skip)) <|
 .seq (.seq (.ops false [⟨none,[.mov (some 25) (.t 6),.iadr (some 26) 1 (.t 25) (.k (.int .i64 0)),.load (some 27) false 1 false (.t 26)]⟩]) <|
 .block 0 <|
  .seq (.ops false [⟨none,[.bin (some 29) .eql (.t 27) (.k (.str [103,114,111,117,112])),.mov (some 28) (.t 29)]⟩]) <|
  .cond (.t 28)
   (.seq (.seq (.ops false [⟨none,[.mov (some 30) (.t 6),.len (some 31) false (.t 30),.bin (some 32) .lss (.t 31) (.k (.int .i64 2))]⟩]) <|
   .cond (.t 32)
    (.seq (.ops false [⟨none,[.load (some 33) false 3 true (.t 2),.store 3 (.t 4) (.t 33),.mov (some 5) (.k (.bool false))]⟩]) <|
    .ret)
    (.skip)) <|
   .seq (.ops true [⟨none,[.fadr (some 34) 0 (.t 2),.load (some 35) false 1 false (.t 34),.appl 36 165 2 (.t 35),.mov (some 37) (.t 6),.iadr (some 38) 1 (.t 37) (.k (.int .i64 1)),.load (some 39) false 1 false (.t 38),.mov (some 40) (.t 6),.slc (some 41) 1 (.t 40) (some (.k (.int .i64 2))) none,.appl 42 9 1 (.t 41),.build (some 43) [(.str []),.nils] [(0,1,(.t 39)),(1,1,(.t 42))],.mkl (some 44) 2 [(.t 43)],.app 45 165 2 (.t 36) (.t 44),.fadr (some 46) 0 (.t 2),.store 1 (.t 46) (.t 45)]⟩]) <|
   .seq (.ops false [⟨none,[.load (some 47) false 3 true (.t 2),.store 3 (.t 4) (.t 47),.mov (some 5) (.k (.bool true))]⟩]) <|
   .ret)
   (.seq (.seq (.ops false [⟨none,[.bin (some 49) .eql (.t 27) (.k (.str [97,108,108,111,119])),.mov (some 48) (.t 49)]⟩]) <|
   .cond (.t 48)
    (.skip)
    (.ops false [⟨none,[.bin (some 50) .eql (.t 27) (.k (.str [100,101,110,121])),.mov (some 48) (.t 50)]⟩])) <|
   .cond (.t 48)
    (.seq (.seq (.ops false [⟨none,[.mov (some 51) (.t 6),.len (some 52) false (.t 51),.bin (some 53) .lss (.t 52) (.k (.int .i64 4)),.mov (some 54) (.t 53)]⟩,
     ⟨some (54,false),[.mov (some 55) (.t 6),.iadr (some 56) 1 (.t 55) (.k (.int .i64 1)),.load (some 57) false 1 false (.t 56),.call (some 58) true 178 [(.t 57)],.bin (some 59) .eql (.t 58) (.k (.int .i64 0))]⟩,
     ⟨none,[.pick (some 60) (.t 54) (.k (.bool true)) (.t 59)]⟩]) <|
    .cond (.t 60)
     (.seq (.ops false [⟨none,[.load (some 61) false 3 true (.t 2),.store 3 (.t 4) (.t 61),.mov (some 5) (.k (.bool false))]⟩]) <|
     .ret)
     (.skip)) <|
    .seq (.ops false [⟨none,[.mov (some 63) (.t 1),.call (some 64) true 180 [(.t 63),(.k (.int .i64 3))],.call (some 65) true 179 [(.t 64)],.mov (some 62) (.t 65),.ext (some 66) 0 (.t 62),.ext (some 67) 1 (.t 62),.alloc 7 179 [(.int .i64 0),(.int .i64 0),(.str [])],.store 3 (.t 7) (.t 66),.mov (some 8) (.t 67)]⟩]) <|
    .seq (.ops true [⟨none,[.fadr (some 68) 1 (.t 2),.load (some 69) false 1 false (.t 68),.appl 70 181 6 (.t 69),.mov (some 71) (.t 6),.iadr (some 72) 1 (.t 71) (.k (.int .i64 0)),.load (some 73) false 1 false (.t 72),.bin (some 74) .eql (.t 73) (.k (.str [97,108,108,111,119])),.mov (some 75) (.t 6),.iadr (some 76) 1 (.t 75) (.k (.int .i64 1)),.load (some 77) false 1 false (.t 76),.call (some 78) true 178 [(.t 77)],.mov (some 79) (.t 6),.iadr (some 80) 1 (.t 79) (.k (.int .i64 2)),.load (some 81) false 1 false (.t 80),.load (some 82) false 3 true (.t 7),.build (some 83) [(.bool false),(.int .i64 0),(.str []),(.int .i64 0),(.int .i64 0),(.str [])] [(0,1,(.t 74)),(1,1,(.t 78)),(2,1,(.t 81)),(3,3,(.t 82))],.mkl (some 84) 6 [(.t 83)],.app 85 181 6 (.t 70) (.t 84),.fadr (some 86) 1 (.t 2),.store 1 (.t 86) (.t 85)]⟩]) <|
    .seq (.ops false [⟨none,[.load (some 87) false 3 true (.t 2),.mov (some 88) (.t 8),.store 3 (.t 4) (.t 87),.mov (some 5) (.t 88)]⟩]) <|
    .ret)
    (.seq (.seq (.ops false [⟨none,[.bin (some 90) .eql (.t 27) (.k (.str [103,117,97,114,100])),.mov (some 89) (.t 90)]⟩]) <|
    .cond (.t 89)
     (.skip)
     (.ops false [⟨none,[.bin (some 91) .eql (.t 27) (.k (.str [115,116,114,105,99,116])),.mov (some 89) (.t 91)]⟩])) <|
    .cond (.t 89)
     (.seq (.seq (.ops false [⟨none,[.mov (some 92) (.t 6),.len (some 93) false (.t 92),.bin (some 94) .lss (.t 93) (.k (.int .i64 3))]⟩]) <|
     .cond (.t 94)
      (.seq (.ops false [⟨none,[.load (some 95) false 3 true (.t 2),.store 3 (.t 4) (.t 95),.mov (some 5) (.k (.bool false))]⟩]) <|
      .ret)
      (.skip)) <|
     .seq (.ops false [⟨none,[.mov (some 97) (.t 1),.call (some 98) true 180 [(.t 97),(.k (.int .i64 2))],.call (some 99) true 181 [(.t 98)],.mov (some 96) (.t 99),.ext (some 100) 0 (.t 96),.ext (some 101) 1 (.t 96),.ext (some 102) 2 (.t 96),.alloc 9 41 [(.int .i64 0),(.str [])],.store 2 (.t 9) (.t 100),.mov (some 10) (.t 101),.mov (some 11) (.t 102)]⟩]) <|
     .seq (.ops true [⟨none,[.fadr (some 103) 2 (.t 2),.load (some 104) false 1 false (.t 103),.appl 105 198 5 (.t 104),.mov (some 106) (.t 6),.iadr (some 107) 1 (.t 106) (.k (.int .i64 0)),.load (some 108) false 1 false (.t 107),.bin (some 109) .eql (.t 108) (.k (.str [115,116,114,105,99,116])),.mov (some 110) (.t 6),.iadr (some 111) 1 (.t 110) (.k (.int .i64 1)),.load (some 112) false 1 false (.t 111),.load (some 113) false 2 true (.t 9),.mov (some 114) (.t 10),.build (some 115) [(.bool false),(.str []),(.int .i64 0),(.str []),(.str [])] [(0,1,(.t 109)),(1,1,(.t 112)),(2,2,(.t 113)),(4,1,(.t 114))],.mkl (some 116) 5 [(.t 115)],.app 117 198 5 (.t 105) (.t 116),.fadr (some 118) 2 (.t 2),.store 1 (.t 118) (.t 117)]⟩]) <|
     .seq (.ops false [⟨none,[.load (some 119) false 3 true (.t 2),.mov (some 120) (.t 11),.store 3 (.t 4) (.t 119),.mov (some 5) (.t 120)]⟩]) <|
     .ret)
     (.skip)))) <|
 .seq (.ops false [⟨none,[.load (some 121) false 3 true (.t 2),.store 3 (.t 4) (.t 121),.mov (some 5) (.k (.bool false))]⟩]) <|
 .ret
def e136:C :=
 .seq (.ops false [⟨none,[.box 1 78 (.t 0),.mov (some 2) (.k (.int .i64 0))]⟩]) <|
 .seq (.seq (.ops false [⟨none,[.fadr (some 9) 0 (.t 1),.load (some 10) false 1 false (.t 9),.len (some 11) false (.t 10),.bin (some 12) .gtr (.t 11) (.k (.int .i64 24)),.mov (some 13) (.t 12)]⟩,
  ⟨some (13,false),[.fadr (some 14) 1 (.t 1),.load (some 15) false 1 false (.t 14),.len (some 16) false (.t 15),.bin (some 17) .gtr (.t 16) (.k (.int .i64 64))]⟩,
  ⟨none,[.pick (some 18) (.t 13) (.k (.bool true)) (.t 17),.mov (some 19) (.t 18)]⟩,
  ⟨some (19,false),[.fadr (some 20) 2 (.t 1),.load (some 21) false 1 false (.t 20),.len (some 22) false (.t 21),.bin (some 23) .gtr (.t 22) (.k (.int .i64 64))]⟩,
  ⟨none,[.pick (some 24) (.t 19) (.k (.bool true)) (.t 23)]⟩]) <|
 .cond (.t 24)
  (.seq (.ops false [⟨none,[.mov (some 2) (.k (.int .i64 3))]⟩]) <|
  .ret)
  (.skip)) <|
 .seq (.seq (.ops false [⟨none,[.mov (some 3) (.k (.int .i64 0))]⟩]) <|
 .block 0 <|
  .loop <|
   .seq (.seq (.ops false [⟨none,[.mov (some 25) (.t 3),.fadr (some 26) 0 (.t 1),.load (some 27) false 1 false (.t 26),.len (some 28) false (.t 27),.bin (some 29) .lss (.t 25) (.t 28)]⟩]) <|
   .cond (.t 29)
    (.skip)
    (.exit 0)) <|
   .seq (.block 1 <|
    .seq (.ops false [⟨none,[.fadr (some 32) 0 (.t 1),.load (some 33) false 1 false (.t 32),.mov (some 34) (.t 3),.call (some 35) true 182 [(.t 33),(.t 34)],.mov (some 4) (.t 35)]⟩]) <|
    .seq (.ops false [⟨none,[.mov (some 36) (.t 4),.bin (some 37) .neq (.t 36) (.k (.int .i64 0))]⟩]) <|
    .cond (.t 37)
     (.seq (.ops false [⟨none,[.mov (some 38) (.t 4),.mov (some 2) (.t 38)]⟩]) <|
     .ret)
     (.skip)) <|
   .ops false [⟨none,[.mov (some 30) (.t 3),.bin (some 31) .add (.t 30) (.k (.int .i64 1)),.mov (some 3) (.t 31)]⟩]) <|
 .seq (.seq (.ops false [⟨none,[.mov (some 5) (.k (.int .i64 0))]⟩]) <|
 .block 2 <|
  .loop <|
   .seq (.seq (.ops false [⟨none,[.mov (some 39) (.t 5),.fadr (some 40) 1 (.t 1),.load (some 41) false 1 false (.t 40),.len (some 42) false (.t 41),.bin (some 43) .lss (.t 39) (.t 42)]⟩]) <|
   .cond (.t 43)
    (.skip)
    (.exit 2)) <|
   .seq (.block 3 <|
    .seq (.ops false [⟨none,[.fadr (some 46) 1 (.t 1),.load (some 47) false 1 false (.t 46),.mov (some 48) (.t 5),.iadr (some 49) 6 (.t 47) (.t 48),.load (some 50) false 6 true (.t 49),.alloc 6 181 [(.bool false),(.int .i64 0),(.str []),(.int .i64 0),(.int .i64 0),(.str [])],.store 6 (.t 6) (.t 50)]⟩]) <|
    .block 4 <|
     .seq (.ops false [⟨none,[.fadr (some 52) 1 (.t 6),.load (some 53) false 1 false (.t 52),.bin (some 54) .lss (.t 53) (.k (.int .i64 1)),.mov (some 55) (.t 54)]⟩,
      ⟨some (55,false),[.fadr (some 56) 1 (.t 6),.load (some 57) false 1 false (.t 56),.bin (some 58) .gtr (.t 57) (.k (.int .i64 5))]⟩,
      ⟨none,[.pick (some 59) (.t 55) (.k (.bool true)) (.t 58),.mov (some 51) (.t 59)]⟩]) <|
     .cond (.t 51)
      (.seq (.ops false [⟨none,[.mov (some 2) (.k (.int .i64 2))]⟩]) <|
      .ret)
      (.seq (.ops false [⟨none,[.fadr (some 61) 0 (.t 1),.load (some 62) false 1 false (.t 61),.fadr (some 63) 2 (.t 6),.load (some 64) false 1 false (.t 63),.call (some 65) true 183 [(.t 62),(.t 64)],.un (some 66) .not (.t 65),.mov (some 60) (.t 66)]⟩]) <|
      .cond (.t 60)
       (.seq (.ops false [⟨none,[.mov (some 2) (.k (.int .i64 4))]⟩]) <|
       .ret)
       (.seq (.ops false [⟨none,[.fadr (some 68) 3 (.t 6),.load (some 69) false 3 true (.t 68),.call (some 70) true 184 [(.t 69)],.un (some 71) .not (.t 70),.mov (some 67) (.t 71)]⟩]) <|
       .cond (.t 67)
        (.seq (.ops false [⟨none,[.mov (some 2) (.k (.int .i64 7))]⟩]) <|
        .ret)
        (.skip)))) <|
   .ops false [⟨none,[.mov (some 44) (.t 5),.bin (some 45) .add (.t 44) (.k (.int .i64 1)),.mov (some 5) (.t 45)]⟩]) <|
 .seq (.seq (.ops false [⟨none,[.mov (some 7) (.k (.int .i64 0))]⟩]) <|
 .block 5 <|
  .loop <|
   .seq (.seq (.ops false [⟨none,[.mov (some 72) (.t 7),.fadr (some 73) 2 (.t 1),.load (some 74) false 1 false (.t 73),.len (some 75) false (.t 74),.bin (some 76) .lss (.t 72) (.t 75)]⟩]) <|
   .cond (.t 76)
    (.skip)
    (.exit 5)) <|
   .seq (.block 6 <|
    .seq (.ops false [⟨none,[.fadr (some 79) 2 (.t 1),.load (some 80) false 1 false (.t 79),.mov (some 81) (.t 7),.iadr (some 82) 5 (.t 80) (.t 81),.load (some 83) false 5 true (.t 82),.alloc 8 198 [(.bool false),(.str []),(.int .i64 0),(.str []),(.str [])],.store 5 (.t 8) (.t 83)]⟩]) <|
    .block 7 <|
     .seq (.ops false [⟨none,[.fadr (some 85) 0 (.t 1),.load (some 86) false 1 false (.t 85),.fadr (some 87) 1 (.t 8),.load (some 88) false 1 false (.t 87),.call (some 89) true 183 [(.t 86),(.t 88)],.un (some 90) .not (.t 89),.mov (some 84) (.t 90)]⟩]) <|
     .cond (.t 84)
      (.seq (.ops false [⟨none,[.mov (some 2) (.k (.int .i64 4))]⟩]) <|
      .ret)
      (.seq (.ops false [⟨none,[.fadr (some 92) 2 (.t 8),.load (some 93) false 2 true (.t 92),.call (some 94) true 121 [(.t 93)],.un (some 95) .not (.t 94),.mov (some 96) (.t 95)]⟩,
       ⟨some (96,false),[.fadr (some 97) 4 (.t 8),.load (some 98) false 1 false (.t 97),.call (some 99) true 185 [(.t 98)],.un (some 100) .not (.t 99)]⟩,
       ⟨none,[.pick (some 101) (.t 96) (.k (.bool true)) (.t 100),.mov (some 91) (.t 101)]⟩]) <|
      .cond (.t 91)
       (.seq (.ops false [⟨none,[.mov (some 2) (.k (.int .i64 7))]⟩]) <|
       .ret)
       (.skip))) <|
   .ops false [⟨none,[.mov (some 77) (.t 7),.bin (some 78) .add (.t 77) (.k (.int .i64 1)),.mov (some 7) (.t 78)]⟩]) <|
 .seq (.ops false [⟨none,[.mov (some 2) (.k (.int .i64 0))]⟩]) <|
 .ret
def e137:C :=
 .seq (.ops false [⟨none,[.mov (some 4) (.k (.int .i64 0))]⟩]) <|
 .seq (.seq (.ops false [⟨none,[.mov (some 6) (.t 0),.len (some 7) false (.t 6),.mov (some 8) (.k (.int .i64 0))]⟩]) <|
 .block 0 <|
  .loop <|
   .seq (.ops false [⟨none,[.bin (some 9) .lss (.t 8) (.t 7)]⟩]) <|
   .seq (.cond (.t 9)
    (.skip)
    (.exit 0)) <|
   .seq (.block 1 <|
    .seq (.ops false [⟨none,[.mov (some 10) (.t 8),.mov (some 5) (.t 10)]⟩]) <|
    .seq (.ops false [⟨none,[.mov (some 11) (.t 1),.mov (some 12) (.t 0),.mov (some 13) (.t 5),.iadr (some 14) 1 (.t 12) (.t 13),.load (some 15) false 1 false (.t 14),.bin (some 16) .eql (.t 11) (.t 15)]⟩]) <|
    .cond (.t 16)
     (.seq (.ops false [⟨none,[.mov (some 17) (.t 5),.mov (some 4) (.t 17)]⟩]) <|
     .ret)
     (.skip)) <|
   .ops false [⟨none,[.bin (some 18) .add (.t 8) (.k (.int .i64 1)),.mov (some 8) (.t 18)]⟩]) <|
 .seq (.ops false [⟨none,[.mov (some 4) (.k (.int .i64 (-1)))]⟩]) <|
 .ret
def e138:C :=
 .seq (.ops false [⟨none,[.mov (some 4) (.k (.int .i64 0))]⟩]) <|
 .seq (.seq (.ops false [⟨none,[.mov (some 6) (.t 0),.len (some 7) false (.t 6),.mov (some 8) (.k (.int .i64 0))]⟩]) <|
 .block 0 <|
  .loop <|
   .seq (.ops false [⟨none,[.bin (some 9) .lss (.t 8) (.t 7)]⟩]) <|
   .seq (.cond (.t 9)
    (.skip)
    (.exit 0)) <|
   .seq (.block 1 <|
    .seq (.ops false [⟨none,[.mov (some 10) (.t 8),.mov (some 5) (.t 10)]⟩]) <|
    .seq (.ops false [⟨none,[.mov (some 11) (.t 1),.mov (some 12) (.t 0),.mov (some 13) (.t 5),.iadr (some 14) 1 (.t 12) (.t 13),.load (some 15) false 1 false (.t 14),.vcall (some 16) 19 (.t 11) [(.t 15)]]⟩]) <|
    .cond (.t 16)
     (.seq (.ops false [⟨none,[.mov (some 17) (.t 5),.mov (some 4) (.t 17)]⟩]) <|
     .ret)
     (.skip)) <|
   .ops false [⟨none,[.bin (some 18) .add (.t 8) (.k (.int .i64 1)),.mov (some 8) (.t 18)]⟩]) <|
 .seq (.ops false [⟨none,[.mov (some 4) (.k (.int .i64 (-1)))]⟩]) <|
 .ret
def e139:C :=
 .seq (.ops false [⟨none,[.mov (some 8) (.k (.bool true))]⟩]) <|
 .seq (.ops false [⟨none,[.mov (some 9) (.k (.bool true))]⟩]) <|
 .block 0 <|
  .loop <|
   .block 1 <|
    .seq (.ops false [⟨none,[.mov (some 19) (.t 2),.mov (some 20) (.t 1),.bin (some 21) .sub (.t 19) (.t 20),.mov (some 10) (.t 21)]⟩]) <|
    .seq (.seq (.ops false [⟨none,[.mov (some 22) (.t 10),.bin (some 23) .leq (.t 22) (.k (.int .i64 12))]⟩]) <|
    .cond (.t 23)
     (.seq (.ops false [⟨none,[.mov (some 24) (.t 0),.mov (some 25) (.t 1),.mov (some 26) (.t 2),.ecall (some 27) 134 186 [(.t 24),(.t 25),(.t 26)]]⟩]) <|
     .ret)
     (.skip)) <|
    .seq (.seq (.ops false [⟨none,[.mov (some 28) (.t 3),.bin (some 29) .eql (.t 28) (.k (.int .i64 0))]⟩]) <|
    .cond (.t 29)
     (.seq (.ops false [⟨none,[.mov (some 30) (.t 0),.mov (some 31) (.t 1),.mov (some 32) (.t 2),.call (some 33) true 187 [(.t 30),(.t 31),(.t 32)]]⟩]) <|
     .ret)
     (.skip)) <|
    .seq (.seq (.ops false [⟨none,[.mov (some 34) (.t 8),.un (some 35) .not (.t 34)]⟩]) <|
    .cond (.t 35)
     (.seq (.ops false [⟨none,[.mov (some 36) (.t 0),.mov (some 37) (.t 1),.mov (some 38) (.t 2),.call (some 39) true 188 [(.t 36),(.t 37),(.t 38)]]⟩]) <|
     .ops false [⟨none,[.mov (some 40) (.t 3),.bin (some 41) .sub (.t 40) (.k (.int .i64 1)),.mov (some 3) (.t 41)]⟩])
     (.skip)) <|
    .seq (.ops false [⟨none,[.mov (some 43) (.t 0),.mov (some 44) (.t 1),.mov (some 45) (.t 2),.call (some 46) true 189 [(.t 43),(.t 44),(.t 45)],.mov (some 42) (.t 46),.ext (some 47) 0 (.t 42),.ext (some 48) 1 (.t 42),.mov (some 11) (.t 47),.mov (some 12) (.t 48)]⟩]) <|
    .seq (.seq (.ops false [⟨none,[.mov (some 49) (.t 12),.bin (some 50) .eql (.t 49) (.k (.int .i64 2))]⟩]) <|
    .cond (.t 50)
     (.seq (.ops false [⟨none,[.mov (some 51) (.t 0),.mov (some 52) (.t 1),.mov (some 53) (.t 2),.call (some 54) true 190 [(.t 51),(.t 52),(.t 53)]]⟩]) <|
     .seq (.ops false [⟨none,[.mov (some 55) (.t 2),.bin (some 56) .sub (.t 55) (.k (.int .i64 1)),.mov (some 57) (.t 11),.mov (some 58) (.t 1),.bin (some 59) .sub (.t 57) (.t 58),.bin (some 60) .sub (.t 56) (.t 59),.mov (some 11) (.t 60)]⟩]) <|
     .ops false [⟨none,[.mov (some 12) (.k (.int .i64 1))]⟩])
     (.skip)) <|
    .seq (.seq (.ops false [⟨none,[.mov (some 61) (.t 8),.mov (some 62) (.t 61)]⟩,
     ⟨some (62,true),[.mov (some 63) (.t 9)]⟩,
     ⟨none,[.pick (some 64) (.t 62) (.t 63) (.k (.bool false)),.mov (some 65) (.t 64)]⟩,
     ⟨some (65,true),[.mov (some 66) (.t 12),.bin (some 67) .eql (.t 66) (.k (.int .i64 1))]⟩,
     ⟨none,[.pick (some 68) (.t 65) (.t 67) (.k (.bool false))]⟩]) <|
    .cond (.t 68)
     (.seq (.ops false [⟨none,[.mov (some 69) (.t 0),.mov (some 70) (.t 1),.mov (some 71) (.t 2),.call (some 72) true 191 [(.t 69),(.t 70),(.t 71)]]⟩]) <|
     .cond (.t 72)
      (.ret)
      (.skip))
     (.skip)) <|
    .seq (.seq (.ops true [⟨none,[.mov (some 73) (.t 1),.bin (some 74) .gtr (.t 73) (.k (.int .i64 0)),.mov (some 75) (.t 74)]⟩,
     ⟨some (75,true),[.mov (some 76) (.t 0),.mov (some 77) (.t 1),.bin (some 78) .sub (.t 77) (.k (.int .i64 1)),.iadr (some 79) 1 (.t 76) (.t 78),.load (some 80) false 1 false (.t 79),.mov (some 81) (.t 0),.mov (some 82) (.t 11),.iadr (some 83) 1 (.t 81) (.t 82),.load (some 84) false 1 false (.t 83),.call (some 85) true 192 [(.t 80),(.t 84)],.un (some 86) .not (.t 85)]⟩,
     ⟨none,[.pick (some 87) (.t 75) (.t 86) (.k (.bool false))]⟩]) <|
    .cond (.t 87)
     (.seq (.ops false [⟨none,[.mov (some 88) (.t 0),.mov (some 89) (.t 1),.mov (some 90) (.t 2),.mov (some 91) (.t 11),.call (some 92) true 193 [(.t 88),(.t 89),(.t 90),(.t 91)],.mov (some 13) (.t 92)]⟩]) <|
     .seq (.ops false [⟨none,[.mov (some 93) (.t 13),.mov (some 1) (.t 93)]⟩]) <|
     .exit 1)
     (.skip)) <|
    .seq (.ops false [⟨none,[.mov (some 95) (.t 0),.mov (some 96) (.t 1),.mov (some 97) (.t 2),.mov (some 98) (.t 11),.call (some 99) true 194 [(.t 95),(.t 96),(.t 97),(.t 98)],.mov (some 94) (.t 99),.ext (some 100) 0 (.t 94),.ext (some 101) 1 (.t 94),.mov (some 14) (.t 100),.mov (some 15) (.t 101)]⟩]) <|
    .seq (.ops false [⟨none,[.mov (some 102) (.t 15),.mov (some 9) (.t 102)]⟩]) <|
    .seq (.ops false [⟨none,[.mov (some 103) (.t 14),.mov (some 104) (.t 1),.bin (some 105) .sub (.t 103) (.t 104),.mov (some 106) (.t 2),.mov (some 107) (.t 14),.bin (some 108) .sub (.t 106) (.t 107),.mov (some 16) (.t 105),.mov (some 17) (.t 108)]⟩]) <|
    .seq (.ops false [⟨none,[.mov (some 109) (.t 10),.bin (some 110) .quo (.t 109) (.k (.int .i64 8)),.mov (some 18) (.t 110)]⟩]) <|
    .seq (.ops false [⟨none,[.mov (some 111) (.t 16),.mov (some 112) (.t 17),.bin (some 113) .lss (.t 111) (.t 112)]⟩]) <|
    .cond (.t 113)
     (.seq (.ops false [⟨none,[.mov (some 114) (.t 16),.mov (some 115) (.t 18),.bin (some 116) .geq (.t 114) (.t 115),.mov (some 8) (.t 116)]⟩]) <|
     .seq (.ops false [⟨none,[.mov (some 117) (.t 0),.mov (some 118) (.t 1),.mov (some 119) (.t 14),.mov (some 120) (.t 3),.ecall (some 121) 134 139 [(.t 117),(.t 118),(.t 119),(.t 120)]]⟩]) <|
     .ops false [⟨none,[.mov (some 122) (.t 14),.bin (some 123) .add (.t 122) (.k (.int .i64 1)),.mov (some 1) (.t 123)]⟩])
     (.seq (.ops false [⟨none,[.mov (some 124) (.t 17),.mov (some 125) (.t 18),.bin (some 126) .geq (.t 124) (.t 125),.mov (some 8) (.t 126)]⟩]) <|
     .seq (.ops false [⟨none,[.mov (some 127) (.t 0),.mov (some 128) (.t 14),.bin (some 129) .add (.t 128) (.k (.int .i64 1)),.mov (some 130) (.t 2),.mov (some 131) (.t 3),.ecall (some 132) 134 139 [(.t 127),(.t 129),(.t 130),(.t 131)]]⟩]) <|
     .ops false [⟨none,[.mov (some 133) (.t 14),.mov (some 2) (.t 133)]⟩])
def e140:C :=
 .seq (.ops false [⟨none,[.mov (some 2) (.k (.int .i64 0))]⟩]) <|
 .seq (.cond (.k (.bool false))
  (.seq (.ops false [⟨none,[.mov (some 3) (.t 0),.cvt (some 4) .u32 (.t 3),.call (some 5) true 195 [(.t 4)],.mov (some 2) (.t 5)]⟩]) <|
  .ret)
  (.skip)) <|
 .seq (.ops false [⟨none,[.mov (some 6) (.t 0),.call (some 7) true 196 [(.t 6)],.mov (some 2) (.t 7)]⟩]) <|
 .ret
def e147:C :=
 .seq (.ops false [⟨none,[.box 1 41 (.t 0),.mov (some 2) (.k .nils)]⟩]) <|
 .seq (.seq (.ops false [⟨none,[.load (some 5) false 2 true (.t 1),.call (some 6) true 24 [(.t 5)],.un (some 7) .not (.t 6)]⟩]) <|
 .cond (.t 7)
  (.seq (.ops false [⟨none,[.mov (some 2) (.k .nils)]⟩]) <|
  .ret)
  (.skip)) <|
 .seq (.ops false [⟨none,[.mov (some 3) (.k .nils)]⟩]) <|
 .seq (.seq (.ops false [⟨none,[.mov (some 4) (.k (.int .i64 0))]⟩]) <|
 .block 0 <|
  .loop <|
   .seq (.seq (.ops false [⟨none,[.mov (some 8) (.t 4),.fadr (some 9) 1 (.t 1),.load (some 10) false 1 false (.t 9),.len (some 11) true (.t 10),.bin (some 12) .lss (.t 8) (.t 11)]⟩]) <|
   .cond (.t 12)
    (.skip)
    (.exit 0)) <|
   .seq (.block 1 <|
    .seq (.ops false [⟨none,[.fadr (some 15) 1 (.t 1),.load (some 16) false 1 false (.t 15),.mov (some 17) (.t 4),.idx (some 18) (.t 16) (.t 17),.bin (some 19) .eql (.t 18) (.k (.int .u8 47))]⟩]) <|
    .cond (.t 19)
     (.ops true [⟨none,[.mov (some 20) (.t 3),.fadr (some 21) 0 (.t 1),.load (some 22) false 1 false (.t 21),.fadr (some 23) 1 (.t 1),.load (some 24) false 1 false (.t 23),.mov (some 25) (.t 4),.slcS (some 26) (.t 24) none (some (.t 25)),.build (some 27) [(.int .i64 0),(.str [])] [(0,1,(.t 22)),(1,1,(.t 26))],.mkl (some 28) 2 [(.t 27)],.app 29 41 2 (.t 20) (.t 28),.mov (some 3) (.t 29)]⟩])
     (.skip)) <|
   .ops false [⟨none,[.mov (some 13) (.t 4),.bin (some 14) .add (.t 13) (.k (.int .i64 1)),.mov (some 4) (.t 14)]⟩]) <|
 .seq (.ops false [⟨none,[.mov (some 30) (.t 3),.mov (some 2) (.t 30)]⟩]) <|
 .ret
def e148:C :=
 .seq (.ops false [⟨none,[.mov (some 4) (.t 0),.len (some 5) false (.t 4),.bin (some 6) .sub (.t 5) (.k (.int .i64 1)),.mov (some 2) (.k (.int .i64 0)),.mov (some 3) (.t 6)]⟩]) <|
 .block 0 <|
  .loop <|
   .seq (.seq (.ops false [⟨none,[.mov (some 7) (.t 2),.mov (some 8) (.t 3),.bin (some 9) .lss (.t 7) (.t 8)]⟩]) <|
   .cond (.t 9)
    (.skip)
    (.exit 0)) <|
   .seq (.block 1 <|
    .ops true [⟨none,[.mov (some 14) (.t 0),.mov (some 15) (.t 2),.mov (some 16) (.t 0),.mov (some 17) (.t 3),.mov (some 18) (.t 0),.mov (some 19) (.t 3),.iadr (some 20) 2 (.t 18) (.t 19),.load (some 21) false 2 true (.t 20),.mov (some 22) (.t 0),.mov (some 23) (.t 2),.iadr (some 24) 2 (.t 22) (.t 23),.load (some 25) false 2 true (.t 24),.iadr (some 26) 2 (.t 14) (.t 15),.store 2 (.t 26) (.t 21),.iadr (some 27) 2 (.t 16) (.t 17),.store 2 (.t 27) (.t 25)]⟩]) <|
   .ops false [⟨none,[.mov (some 10) (.t 2),.bin (some 11) .add (.t 10) (.k (.int .i64 1)),.mov (some 12) (.t 3),.bin (some 13) .sub (.t 12) (.k (.int .i64 1)),.mov (some 2) (.t 11),.mov (some 3) (.t 13)]⟩]
def e160:C :=
 .seq (.ops false [⟨none,[.mov (some 2) (.k (.str [])),.mov (some 3) (.k (.str []))]⟩]) <|
 .seq (.ops false [⟨none,[.mov (some 5) (.t 0),.call (some 6) true 208 [(.t 5),(.k (.str [32,9]))],.mov (some 0) (.t 6)]⟩]) <|
 .seq (.ops false [⟨none,[.mov (some 7) (.t 0),.call (some 8) true 209 [(.t 7),(.k (.str [32,9]))],.mov (some 4) (.t 8)]⟩]) <|
 .seq (.seq (.ops false [⟨none,[.mov (some 9) (.t 4),.bin (some 10) .lss (.t 9) (.k (.int .i64 0))]⟩]) <|
 .cond (.t 10)
  (.seq (.ops false [⟨none,[.mov (some 11) (.t 0),.mov (some 2) (.t 11),.mov (some 3) (.k (.str []))]⟩]) <|
  .ret)
  (.skip)) <|
 .seq (.ops true [⟨none,[.mov (some 12) (.t 0),.mov (some 13) (.t 4),.slcS (some 14) (.t 12) none (some (.t 13)),.mov (some 15) (.t 0),.mov (some 16) (.t 4),.slcS (some 17) (.t 15) (some (.t 16)) none,.call (some 18) true 208 [(.t 17),(.k (.str [32,9]))],.mov (some 2) (.t 14),.mov (some 3) (.t 18)]⟩]) <|
 .ret
def e161:C :=
 .seq (.ops false [⟨none,[.mov (some 4) (.k (.bool false))]⟩]) <|
 .seq (.ops false [⟨none,[.mov (some 8) (.t 1),.call (some 9) true 160 [(.t 8)],.mov (some 7) (.t 9),.ext (some 10) 0 (.t 7),.ext (some 11) 1 (.t 7),.mov (some 5) (.t 10),.mov (some 1) (.t 11)]⟩]) <|
 .seq (.ops false [⟨none,[.mov (some 12) (.t 1),.call (some 13) true 210 [(.t 12),(.k (.fn 211 []))],.mov (some 6) (.t 13)]⟩]) <|
 .seq (.ops false [⟨none,[.mov (some 14) (.t 0),.mov (some 15) (.t 0),.nchk (some 16) (.t 15),.fadr (some 17) 0 (.t 16),.load (some 18) false 1 false (.t 17),.mov (some 19) (.t 5),.mov (some 20) (.t 6),.build (some 21) [(.str []),.nils] [(0,1,(.t 19)),(1,1,(.t 20))],.mkl (some 22) 2 [(.t 21)],.app 23 165 2 (.t 18) (.t 22),.nchk (some 24) (.t 14),.fadr (some 25) 0 (.t 24),.store 1 (.t 25) (.t 23)]⟩]) <|
 .seq (.ops false [⟨none,[.mov (some 26) (.t 5),.bin (some 27) .neq (.t 26) (.k (.str [])),.mov (some 4) (.t 27)]⟩]) <|
 .ret
def e162:C :=
 .seq (.ops false [⟨none,[.mov (some 6) (.k (.bool false))]⟩]) <|
 .seq (.ops false [⟨none,[.mov (some 15) (.t 1),.call (some 16) true 160 [(.t 15)],.mov (some 14) (.t 16),.ext (some 17) 0 (.t 14),.ext (some 18) 1 (.t 14),.mov (some 7) (.t 17),.mov (some 1) (.t 18)]⟩]) <|
 .seq (.ops false [⟨none,[.mov (some 20) (.t 1),.call (some 21) true 160 [(.t 20)],.mov (some 19) (.t 21),.ext (some 22) 0 (.t 19),.ext (some 23) 1 (.t 19),.mov (some 8) (.t 22),.mov (some 9) (.t 23)]⟩]) <|
 .seq (.ops false [⟨none,[.mov (some 24) (.t 2),.call (some 25) true 212 [],.mov (some 26) (.t 7),.call (some 27) true 137 [(.t 25),(.t 26)],.bin (some 28) .add (.t 27) (.k (.int .i64 1)),.mov (some 29) (.t 8),.build (some 30) [(.bool false),(.int .i64 0),(.str []),(.int .i64 0),(.int .i64 0),(.str [])] [(0,1,(.t 24)),(1,1,(.t 28)),(2,1,(.t 29))],.alloc 10 181 [(.bool false),(.int .i64 0),(.str []),(.int .i64 0),(.int .i64 0),(.str [])],.store 6 (.t 10) (.t 30)]⟩]) <|
 .seq (.seq (.ops false [⟨none,[.fadr (some 31) 1 (.t 10),.load (some 32) false 1 false (.t 31),.bin (some 33) .eql (.t 32) (.k (.int .i64 0))]⟩]) <|
 .cond (.t 33)
  (.seq (.ops false [⟨none,[.mov (some 6) (.k (.bool false))]⟩]) <|
  .ret)
  (.skip)) <|
 .seq (.seq (.ops false [⟨none,[.mov (some 34) (.t 9),.bin (some 35) .eql (.t 34) (.k (.str [60,97,108,108,62]))]⟩]) <|
 .cond (.t 35)
  (.ops false [⟨none,[.fadr (some 36) 3 (.t 10),.fadr (some 37) 0 (.t 36),.store 1 (.t 37) (.k (.int .i64 1))]⟩])
  (.seq (.ops false [⟨none,[.call (some 38) true 213 [],.mov (some 39) (.t 9),.call (some 40) true 137 [(.t 38),(.t 39)],.mov (some 11) (.t 40)]⟩]) <|
  .seq (.ops false [⟨none,[.mov (some 41) (.t 11),.bin (some 42) .geq (.t 41) (.k (.int .i64 0))]⟩]) <|
  .cond (.t 42)
   (.ops false [⟨none,[.mov (some 43) (.t 11),.build (some 44) [(.int .i64 0),(.str [])] [(0,1,(.t 43))],.build (some 45) [(.int .i64 0),(.int .i64 0),(.str [])] [(0,1,(.k (.int .i64 2))),(1,2,(.t 44))],.fadr (some 46) 3 (.t 10),.store 3 (.t 46) (.t 45)]⟩])
   (.seq (.ops false [⟨none,[.mov (some 48) (.t 9),.call (some 49) true 214 [(.t 48)],.mov (some 47) (.t 49),.ext (some 50) 0 (.t 47),.ext (some 51) 1 (.t 47),.alloc 12 41 [(.int .i64 0),(.str [])],.store 2 (.t 12) (.t 50),.mov (some 13) (.t 51)]⟩]) <|
   .seq (.seq (.ops false [⟨none,[.mov (some 52) (.t 13),.bin (some 53) .neq (.t 52) (.k (.int .i64 0))]⟩]) <|
   .cond (.t 53)
    (.seq (.ops false [⟨none,[.mov (some 6) (.k (.bool false))]⟩]) <|
    .ret)
    (.skip)) <|
   .ops false [⟨none,[.load (some 54) false 2 true (.t 12),.build (some 55) [(.int .i64 0),(.int .i64 0),(.str [])] [(0,1,(.k (.int .i64 3))),(1,2,(.t 54))],.fadr (some 56) 3 (.t 10),.store 3 (.t 56) (.t 55)]⟩]))) <|
 .seq (.ops true [⟨none,[.mov (some 57) (.t 0),.mov (some 58) (.t 0),.nchk (some 59) (.t 58),.fadr (some 60) 1 (.t 59),.load (some 61) false 1 false (.t 60),.load (some 62) false 6 true (.t 10),.mkl (some 63) 6 [(.t 62)],.app 64 181 6 (.t 61) (.t 63),.nchk (some 65) (.t 57),.fadr (some 66) 1 (.t 65),.store 1 (.t 66) (.t 64)]⟩]) <|
 .seq (.ops false [⟨none,[.mov (some 6) (.k (.bool true))]⟩]) <|
 .ret
def e163:C :=
 .seq (.ops false [⟨none,[.mov (some 6) (.k (.bool false))]⟩]) <|
 .seq (.ops false [⟨none,[.mov (some 14) (.t 1),.call (some 15) true 160 [(.t 14)],.mov (some 13) (.t 15),.ext (some 16) 0 (.t 13),.ext (some 17) 1 (.t 13),.mov (some 7) (.t 16),.mov (some 1) (.t 17)]⟩]) <|
 .seq (.ops false [⟨none,[.mov (some 19) (.t 1),.call (some 20) true 90 [(.t 19),(.k (.str [124]))],.mov (some 18) (.t 20),.ext (some 21) 0 (.t 18),.ext (some 22) 1 (.t 18),.ext (some 23) 2 (.t 18),.mov (some 8) (.t 21),.mov (some 9) (.t 22),.mov (some 10) (.t 23)]⟩]) <|
 .seq (.ops false [⟨none,[.mov (some 24) (.t 9),.call (some 25) true 208 [(.t 24),(.k (.str [32,9]))],.mov (some 9) (.t 25)]⟩]) <|
 .seq (.ops false [⟨none,[.mov (some 27) (.t 8),.call (some 28) true 208 [(.t 27),(.k (.str [32,9]))],.call (some 29) true 214 [(.t 28)],.mov (some 26) (.t 29),.ext (some 30) 0 (.t 26),.ext (some 31) 1 (.t 26),.alloc 11 41 [(.int .i64 0),(.str [])],.store 2 (.t 11) (.t 30),.mov (some 12) (.t 31)]⟩]) <|
 .seq (.seq (.ops false [⟨none,[.mov (some 32) (.t 12),.bin (some 33) .neq (.t 32) (.k (.int .i64 0)),.mov (some 34) (.t 33)]⟩,
  ⟨some (34,false),[.mov (some 35) (.t 10),.mov (some 36) (.t 35)]⟩,
  ⟨some (36,true),[.mov (some 37) (.t 9),.bin (some 38) .eql (.t 37) (.k (.str []))]⟩,
  ⟨some (34,false),[.pick (some 39) (.t 36) (.t 38) (.k (.bool false))]⟩,
  ⟨none,[.pick (some 40) (.t 34) (.k (.bool true)) (.t 39)]⟩]) <|
 .cond (.t 40)
  (.seq (.ops false [⟨none,[.mov (some 6) (.k (.bool false))]⟩]) <|
  .ret)
  (.skip)) <|
 .seq (.ops true [⟨none,[.mov (some 41) (.t 0),.mov (some 42) (.t 0),.nchk (some 43) (.t 42),.fadr (some 44) 2 (.t 43),.load (some 45) false 1 false (.t 44),.mov (some 46) (.t 2),.mov (some 47) (.t 7),.load (some 48) false 2 true (.t 11),.mov (some 49) (.t 9),.build (some 50) [(.bool false),(.str []),(.int .i64 0),(.str []),(.str [])] [(0,1,(.t 46)),(1,1,(.t 47)),(2,2,(.t 48)),(4,1,(.t 49))],.mkl (some 51) 5 [(.t 50)],.app 52 198 5 (.t 45) (.t 51),.nchk (some 53) (.t 41),.fadr (some 54) 2 (.t 53),.store 1 (.t 54) (.t 52)]⟩]) <|
 .seq (.ops false [⟨none,[.mov (some 6) (.k (.bool true))]⟩]) <|
 .ret
def e164:C :=
 .seq (.ops false [⟨none,[.box 2 78 (.t 0),.mov (some 4) (.k (.int .i64 0))]⟩]) <|
 .seq (.ops false [⟨none,[.fadr (some 10) 0 (.t 2),.load (some 11) false 1 false (.t 10),.mov (some 12) (.t 1),.iadr (some 13) 2 (.t 11) (.t 12),.load (some 14) false 2 true (.t 13),.alloc 5 165 [(.str []),.nils],.store 2 (.t 5) (.t 14)]⟩]) <|
 .seq (.seq (.ops false [⟨none,[.fadr (some 15) 0 (.t 5),.load (some 16) false 1 false (.t 15),.call (some 17) true 53 [(.t 16)],.un (some 18) .not (.t 17)]⟩]) <|
 .cond (.t 18)
  (.seq (.ops false [⟨none,[.mov (some 4) (.k (.int .i64 1))]⟩]) <|
  .ret)
  (.skip)) <|
 .seq (.seq (.ops false [⟨none,[.fadr (some 19) 0 (.t 5),.load (some 20) false 1 false (.t 19),.call (some 21) true 215 [(.t 20)],.mov (some 22) (.t 21)]⟩,
  ⟨some (22,false),[.fadr (some 23) 0 (.t 2),.load (some 24) false 1 false (.t 23),.mov (some 25) (.t 1),.slc (some 26) 2 (.t 24) none (some (.t 25)),.clos (some 27) 217 [(.t 5)],.call (some 28) false 216 [(.t 26),(.t 27)]]⟩,
  ⟨none,[.pick (some 29) (.t 22) (.k (.bool true)) (.t 28)]⟩]) <|
 .cond (.t 29)
  (.seq (.ops false [⟨none,[.mov (some 4) (.k (.int .i64 5))]⟩]) <|
  .ret)
  (.skip)) <|
 .seq (.seq (.ops false [⟨none,[.fadr (some 30) 1 (.t 5),.load (some 31) false 1 false (.t 30),.len (some 32) false (.t 31),.bin (some 33) .gtr (.t 32) (.k (.int .i64 24))]⟩]) <|
 .cond (.t 33)
  (.seq (.ops false [⟨none,[.mov (some 4) (.k (.int .i64 3))]⟩]) <|
  .ret)
  (.skip)) <|
 .seq (.seq (.ops false [⟨none,[.fadr (some 34) 1 (.t 5),.load (some 35) false 1 false (.t 34),.len (some 36) false (.t 35),.mov (some 37) (.k (.int .i64 0))]⟩]) <|
 .block 0 <|
  .loop <|
   .seq (.ops false [⟨none,[.bin (some 38) .lss (.t 37) (.t 36)]⟩]) <|
   .seq (.cond (.t 38)
    (.skip)
    (.exit 0)) <|
   .seq (.block 1 <|
    .seq (.ops false [⟨none,[.iadr (some 39) 1 (.t 35) (.t 37),.load (some 40) false 1 false (.t 39),.mov (some 7) (.t 40)]⟩]) <|
    .seq (.ops false [⟨none,[.mov (some 42) (.t 7),.call (some 43) true 218 [(.t 42),(.k (.str [64]))],.mov (some 41) (.t 43),.ext (some 44) 0 (.t 41),.ext (some 45) 1 (.t 41),.mov (some 8) (.t 44),.mov (some 9) (.t 45)]⟩]) <|
    .seq (.seq (.ops false [⟨none,[.mov (some 46) (.t 8),.call (some 47) true 53 [(.t 46)],.un (some 48) .not (.t 47)]⟩]) <|
    .cond (.t 48)
     (.seq (.ops false [⟨none,[.mov (some 4) (.k (.int .i64 1))]⟩]) <|
     .ret)
     (.skip)) <|
    .seq (.ops false [⟨none,[.mov (some 49) (.t 9),.mov (some 50) (.t 49)]⟩,
     ⟨some (50,true),[.load (some 51) false 3 true (.t 2),.mov (some 52) (.t 8),.call (some 53) true 219 [(.t 51),(.t 52)],.un (some 54) .not (.t 53)]⟩,
     ⟨none,[.pick (some 55) (.t 50) (.t 54) (.k (.bool false))]⟩]) <|
    .cond (.t 55)
     (.seq (.ops false [⟨none,[.mov (some 4) (.k (.int .i64 4))]⟩]) <|
     .ret)
     (.skip)) <|
   .ops false [⟨none,[.bin (some 56) .add (.t 37) (.k (.int .i64 1)),.mov (some 37) (.t 56)]⟩]) <|
 .seq (.ops false [⟨none,[.mov (some 4) (.k (.int .i64 0))]⟩]) <|
 .ret
def e165:C :=
 .seq (.ops false [⟨none,[.box 2 78 (.t 0),.box 3 181 (.t 1),.mov (some 4) (.k (.int .i64 0))]⟩]) <|
 .seq (.seq (.ops false [⟨none,[.fadr (some 7) 1 (.t 3),.load (some 8) false 1 false (.t 7),.bin (some 9) .lss (.t 8) (.k (.int .i64 1)),.mov (some 10) (.t 9)]⟩,
  ⟨some (10,false),[.fadr (some 11) 1 (.t 3),.load (some 12) false 1 false (.t 11),.bin (some 13) .gtr (.t 12) (.k (.int .i64 5))]⟩,
  ⟨none,[.pick (some 14) (.t 10) (.k (.bool true)) (.t 13)]⟩]) <|
 .cond (.t 14)
  (.seq (.ops false [⟨none,[.mov (some 4) (.k (.int .i64 2))]⟩]) <|
  .ret)
  (.skip)) <|
 .seq (.seq (.ops false [⟨none,[.load (some 15) false 3 true (.t 2),.fadr (some 16) 2 (.t 3),.load (some 17) false 1 false (.t 16),.call (some 18) true 219 [(.t 15),(.t 17)],.un (some 19) .not (.t 18)]⟩]) <|
 .cond (.t 19)
  (.seq (.ops false [⟨none,[.mov (some 4) (.k (.int .i64 4))]⟩]) <|
  .ret)
  (.skip)) <|
 .seq (.ops false [⟨none,[.fadr (some 20) 3 (.t 3),.fadr (some 21) 1 (.t 20),.load (some 22) false 2 true (.t 21),.alloc 5 41 [(.int .i64 0),(.str [])],.store 2 (.t 5) (.t 22)]⟩]) <|
 .seq (.ops false [⟨none,[.mov (some 6) (.k (.bool false))]⟩]) <|
 .seq (.seq (.ops false [⟨none,[.fadr (some 23) 3 (.t 3),.fadr (some 24) 0 (.t 23),.load (some 25) false 1 false (.t 24)]⟩]) <|
 .block 0 <|
  .seq (.ops false [⟨none,[.bin (some 27) .eql (.t 25) (.k (.int .i64 1)),.mov (some 26) (.t 27)]⟩]) <|
  .cond (.t 26)
   (.ops false [⟨none,[.load (some 28) false 2 true (.t 5),.build (some 29) [(.int .i64 0),(.str [])] [],.eqA (some 30) false [0,1] (.t 28) (.t 29),.mov (some 6) (.t 30)]⟩])
   (.seq (.ops false [⟨none,[.bin (some 32) .eql (.t 25) (.k (.int .i64 2)),.mov (some 31) (.t 32)]⟩]) <|
   .cond (.t 31)
    (.ops false [⟨none,[.fadr (some 33) 0 (.t 5),.load (some 34) false 1 false (.t 33),.bin (some 35) .geq (.t 34) (.k (.int .i64 0)),.mov (some 36) (.t 35)]⟩,
     ⟨some (36,true),[.fadr (some 37) 0 (.t 5),.load (some 38) false 1 false (.t 37),.bin (some 39) .lss (.t 38) (.k (.int .i64 6))]⟩,
     ⟨none,[.pick (some 40) (.t 36) (.t 39) (.k (.bool false)),.mov (some 41) (.t 40)]⟩,
     ⟨some (41,true),[.fadr (some 42) 1 (.t 5),.load (some 43) false 1 false (.t 42),.bin (some 44) .eql (.t 43) (.k (.str []))]⟩,
     ⟨none,[.pick (some 45) (.t 41) (.t 44) (.k (.bool false)),.mov (some 6) (.t 45)]⟩])
    (.seq (.ops false [⟨none,[.bin (some 47) .eql (.t 25) (.k (.int .i64 3)),.mov (some 46) (.t 47)]⟩]) <|
    .cond (.t 46)
     (.ops false [⟨none,[.load (some 48) false 2 true (.t 5),.call (some 49) true 24 [(.t 48)],.mov (some 6) (.t 49)]⟩])
     (.skip)))) <|
 .seq (.seq (.ops false [⟨none,[.mov (some 50) (.t 6),.un (some 51) .not (.t 50)]⟩]) <|
 .cond (.t 51)
  (.seq (.ops false [⟨none,[.mov (some 4) (.k (.int .i64 7))]⟩]) <|
  .ret)
  (.skip)) <|
 .seq (.ops false [⟨none,[.mov (some 4) (.k (.int .i64 0))]⟩]) <|
 .ret
def e166:C :=
 .seq (.ops false [⟨none,[.box 2 78 (.t 0),.box 3 198 (.t 1),.mov (some 4) (.k (.int .i64 0))]⟩]) <|
 .seq (.seq (.ops false [⟨none,[.load (some 5) false 3 true (.t 2),.fadr (some 6) 1 (.t 3),.load (some 7) false 1 false (.t 6),.call (some 8) true 219 [(.t 5),(.t 7)],.un (some 9) .not (.t 8)]⟩]) <|
 .cond (.t 9)
  (.seq (.ops false [⟨none,[.mov (some 4) (.k (.int .i64 4))]⟩]) <|
  .ret)
  (.skip)) <|
 .seq (.seq (.ops true [⟨none,[.fadr (some 10) 2 (.t 3),.load (some 11) false 2 true (.t 10),.call (some 12) true 24 [(.t 11)],.un (some 13) .not (.t 12),.mov (some 14) (.t 13)]⟩,
  ⟨some (14,false),[.fadr (some 15) 4 (.t 3),.load (some 16) false 1 false (.t 15),.len (some 17) true (.t 16),.bin (some 18) .gtr (.t 17) (.k (.int .i64 100))]⟩,
  ⟨none,[.pick (some 19) (.t 14) (.k (.bool true)) (.t 18),.mov (some 20) (.t 19)]⟩,
  ⟨some (20,false),[.fadr (some 21) 4 (.t 3),.load (some 22) false 1 false (.t 21),.call (some 23) true 220 [(.t 22),(.k (.str [10,124]))]]⟩,
  ⟨none,[.pick (some 24) (.t 20) (.k (.bool true)) (.t 23),.mov (some 25) (.t 24)]⟩,
  ⟨some (25,false),[.fadr (some 26) 4 (.t 3),.load (some 27) false 1 false (.t 26),.call (some 28) true 208 [(.t 27),(.k (.str [32,9]))],.fadr (some 29) 4 (.t 3),.load (some 30) false 1 false (.t 29),.bin (some 31) .neq (.t 28) (.t 30)]⟩,
  ⟨none,[.pick (some 32) (.t 25) (.k (.bool true)) (.t 31)]⟩]) <|
 .cond (.t 32)
  (.seq (.ops false [⟨none,[.mov (some 4) (.k (.int .i64 7))]⟩]) <|
  .ret)
  (.skip)) <|
 .seq (.ops false [⟨none,[.mov (some 4) (.k (.int .i64 0))]⟩]) <|
 .ret
def e169:C :=
 .seq (.ops false [⟨none,[.mov (some 6) (.k (.int .i64 0))]⟩]) <|
 .seq (.seq (.ops false [⟨none,[.mov (some 8) (.t 2),.mov (some 7) (.t 8)]⟩]) <|
 .block 0 <|
  .loop <|
   .seq (.seq (.ops false [⟨none,[.mov (some 9) (.t 7),.mov (some 10) (.t 1),.len (some 11) true (.t 10),.bin (some 12) .add (.t 9) (.t 11),.mov (some 13) (.t 0),.len (some 14) true (.t 13),.bin (some 15) .leq (.t 12) (.t 14)]⟩]) <|
   .cond (.t 15)
    (.skip)
    (.exit 0)) <|
   .seq (.block 1 <|
    .seq (.ops false [⟨none,[.mov (some 18) (.t 0),.mov (some 19) (.t 7),.mov (some 20) (.t 7),.mov (some 21) (.t 1),.len (some 22) true (.t 21),.bin (some 23) .add (.t 20) (.t 22),.slcS (some 24) (.t 18) (some (.t 19)) (some (.t 23)),.mov (some 25) (.t 1),.bin (some 26) .eql (.t 24) (.t 25)]⟩]) <|
    .cond (.t 26)
     (.seq (.ops false [⟨none,[.mov (some 27) (.t 7),.mov (some 6) (.t 27)]⟩]) <|
     .ret)
     (.skip)) <|
   .ops false [⟨none,[.mov (some 16) (.t 7),.bin (some 17) .add (.t 16) (.k (.int .i64 1)),.mov (some 7) (.t 17)]⟩]) <|
 .seq (.ops false [⟨none,[.mov (some 6) (.k (.int .i64 (-1)))]⟩]) <|
 .ret
def e174:C :=
 .seq (.ops false [⟨none,[.mov (some 2) (.k .nils)]⟩]) <|
 .seq (.ops false [⟨none,[.mkv 5 9 1 [(.k (.str []))],.mov (some 3) (.t 5)]⟩]) <|
 .seq (.seq (.ops false [⟨none,[.mov (some 4) (.k (.int .i64 0))]⟩]) <|
 .block 0 <|
  .loop <|
   .seq (.seq (.ops false [⟨none,[.mov (some 6) (.t 4),.mov (some 7) (.t 0),.len (some 8) true (.t 7),.bin (some 9) .lss (.t 6) (.t 8)]⟩]) <|
   .cond (.t 9)
    (.skip)
    (.exit 0)) <|
   .seq (.block 1 <|
    .seq (.ops false [⟨none,[.mov (some 12) (.t 0),.mov (some 13) (.t 4),.idx (some 14) (.t 12) (.t 13),.bin (some 15) .eql (.t 14) (.k (.int .u8 47))]⟩]) <|
    .cond (.t 15)
     (.ops false [⟨none,[.mov (some 16) (.t 3),.mkl (some 17) 1 [(.k (.str []))],.app 18 9 1 (.t 16) (.t 17),.mov (some 3) (.t 18)]⟩])
     (.ops true [⟨none,[.mov (some 19) (.t 3),.mov (some 20) (.t 3),.len (some 21) false (.t 20),.bin (some 22) .sub (.t 21) (.k (.int .i64 1)),.mov (some 23) (.t 3),.mov (some 24) (.t 3),.len (some 25) false (.t 24),.bin (some 26) .sub (.t 25) (.k (.int .i64 1)),.iadr (some 27) 1 (.t 23) (.t 26),.load (some 28) false 1 false (.t 27),.mov (some 29) (.t 0),.mov (some 30) (.t 4),.mov (some 31) (.t 4),.bin (some 32) .add (.t 31) (.k (.int .i64 1)),.slcS (some 33) (.t 29) (some (.t 30)) (some (.t 32)),.bin (some 34) .add (.t 28) (.t 33),.iadr (some 35) 1 (.t 19) (.t 22),.store 1 (.t 35) (.t 34)]⟩])) <|
   .ops false [⟨none,[.mov (some 10) (.t 4),.bin (some 11) .add (.t 10) (.k (.int .i64 1)),.mov (some 4) (.t 11)]⟩]) <|
 .seq (.ops false [⟨none,[.mov (some 36) (.t 3),.mov (some 2) (.t 36)]⟩]) <|
 .ret
def e175:C :=
 .seq (.ops false [⟨none,[.mov (some 2) (.k (.int .i64 0)),.mov (some 3) (.k (.int .i64 0))]⟩]) <|
 .seq (.ops false [⟨none,[.mov (some 7) (.t 0),.call (some 8) true 169 [(.t 7),(.k (.str [58])),(.k (.int .i64 0))],.mov (some 4) (.t 8)]⟩]) <|
 .seq (.seq (.ops false [⟨none,[.mov (some 9) (.t 4),.bin (some 10) .lss (.t 9) (.k (.int .i64 0))]⟩]) <|
 .cond (.t 10)
  (.seq (.ops false [⟨none,[.mov (some 2) (.k (.int .i64 0)),.mov (some 3) (.k (.int .i64 0))]⟩]) <|
  .ret)
  (.skip)) <|
 .seq (.ops false [⟨none,[.mov (some 11) (.t 0),.mov (some 12) (.t 4),.slcS (some 13) (.t 11) none (some (.t 12)),.mov (some 5) (.t 13)]⟩]) <|
 .seq (.seq (.ops false [⟨none,[.mov (some 14) (.t 5),.len (some 15) true (.t 14),.bin (some 16) .gtr (.t 15) (.k (.int .i64 0)),.mov (some 17) (.t 16)]⟩,
  ⟨some (17,true),[.mov (some 18) (.t 5),.mov (some 19) (.t 5),.len (some 20) true (.t 19),.bin (some 21) .sub (.t 20) (.k (.int .i64 1)),.idx (some 22) (.t 18) (.t 21),.bin (some 23) .eql (.t 22) (.k (.int .u8 32))]⟩,
  ⟨none,[.pick (some 24) (.t 17) (.t 23) (.k (.bool false))]⟩]) <|
 .cond (.t 24)
  (.ops false [⟨none,[.mov (some 25) (.t 5),.mov (some 26) (.t 5),.len (some 27) true (.t 26),.bin (some 28) .sub (.t 27) (.k (.int .i64 1)),.slcS (some 29) (.t 25) none (some (.t 28)),.mov (some 5) (.t 29)]⟩])
  (.skip)) <|
 .seq (.seq (.ops false [⟨none,[.mov (some 6) (.k (.int .i64 1))]⟩]) <|
 .block 0 <|
  .loop <|
   .seq (.seq (.ops false [⟨none,[.mov (some 30) (.t 6),.bin (some 31) .lss (.t 30) (.k (.int .i64 6))]⟩]) <|
   .cond (.t 31)
    (.skip)
    (.exit 0)) <|
   .seq (.block 1 <|
    .seq (.ops false [⟨none,[.mov (some 34) (.t 5),.mov (some 35) (.t 6),.call (some 36) true 224 [(.t 35)],.call (some 37) true 223 [(.t 34),(.t 36)]]⟩]) <|
    .cond (.t 37)
     (.seq (.ops false [⟨none,[.mov (some 38) (.t 6),.mov (some 39) (.t 4),.mov (some 2) (.t 38),.mov (some 3) (.t 39)]⟩]) <|
     .ret)
     (.skip)) <|
   .ops false [⟨none,[.mov (some 32) (.t 6),.bin (some 33) .add (.t 32) (.k (.int .i64 1)),.mov (some 6) (.t 33)]⟩]) <|
 .seq (.ops false [⟨none,[.mov (some 2) (.k (.int .i64 0)),.mov (some 3) (.k (.int .i64 0))]⟩]) <|
 .ret
def e177:C :=
 .seq (.ops false [⟨none,[.mov (some 2) (.k .nils)]⟩]) <|
 .seq (.ops false [⟨none,[.mov (some 3) (.k .nils)]⟩]) <|
 .seq (.ops false [⟨none,[.mov (some 4) (.k (.str []))]⟩]) <|
 .seq (.seq (.ops false [⟨none,[.mov (some 5) (.k (.int .i64 0))]⟩]) <|
 .block 0 <|
  .loop <|
   .seq (.seq (.ops false [⟨none,[.mov (some 6) (.t 5),.mov (some 7) (.t 0),.len (some 8) true (.t 7),.bin (some 9) .lss (.t 6) (.t 8)]⟩]) <|
   .cond (.t 9)
    (.skip)
    (.exit 0)) <|
   .seq (.block 1 <|
    .seq (.seq (.ops false [⟨none,[.mov (some 12) (.t 0),.mov (some 13) (.t 5),.idx (some 14) (.t 12) (.t 13),.bin (some 15) .eql (.t 14) (.k (.int .u8 9)),.mov (some 16) (.t 15)]⟩,
     ⟨some (16,false),[.mov (some 17) (.t 0),.mov (some 18) (.t 5),.idx (some 19) (.t 17) (.t 18),.bin (some 20) .eql (.t 19) (.k (.int .u8 32))]⟩,
     ⟨none,[.pick (some 21) (.t 16) (.k (.bool true)) (.t 20)]⟩]) <|
    .cond (.t 21)
     (.seq (.seq (.ops false [⟨none,[.mov (some 22) (.t 4),.bin (some 23) .neq (.t 22) (.k (.str []))]⟩]) <|
     .cond (.t 23)
      (.ops false [⟨none,[.mov (some 24) (.t 3),.mov (some 25) (.t 4),.mkl (some 26) 1 [(.t 25)],.app 27 9 1 (.t 24) (.t 26),.mov (some 3) (.t 27)]⟩])
      (.skip)) <|
     .seq (.ops false [⟨none,[.mov (some 4) (.k (.str []))]⟩]) <|
     .exit 1)
     (.skip)) <|
    .ops false [⟨none,[.mov (some 28) (.t 4),.mov (some 29) (.t 0),.mov (some 30) (.t 5),.mov (some 31) (.t 5),.bin (some 32) .add (.t 31) (.k (.int .i64 1)),.slcS (some 33) (.t 29) (some (.t 30)) (some (.t 32)),.bin (some 34) .add (.t 28) (.t 33),.mov (some 4) (.t 34)]⟩]) <|
   .ops false [⟨none,[.mov (some 10) (.t 5),.bin (some 11) .add (.t 10) (.k (.int .i64 1)),.mov (some 5) (.t 11)]⟩]) <|
 .seq (.seq (.ops false [⟨none,[.mov (some 35) (.t 4),.bin (some 36) .neq (.t 35) (.k (.str []))]⟩]) <|
 .cond (.t 36)
  (.ops false [⟨none,[.mov (some 37) (.t 3),.mov (some 38) (.t 4),.mkl (some 39) 1 [(.t 38)],.app 40 9 1 (.t 37) (.t 39),.mov (some 3) (.t 40)]⟩])
  (.skip)) <|
 .seq (.ops false [⟨none,[.mov (some 41) (.t 3),.mov (some 2) (.t 41)]⟩]) <|
 .ret
def e178:C :=
 .seq (.ops false [⟨none,[.mov (some 2) (.k (.int .i64 0))]⟩]) <|
 .seq (.ops false [⟨none,[.mkl (some 5) 1 [(.k (.str [])),(.k (.str [114,101,97,100])),(.k (.str [101,100,105,116])),(.k (.str [109,111,118,101])),(.k (.str [100,101,108,101,116,101])),(.k (.str [114,101,118,105,101,119]))],.mov (some 3) (.t 5)]⟩]) <|
 .seq (.seq (.ops false [⟨none,[.mov (some 4) (.k (.int .i64 1))]⟩]) <|
 .block 0 <|
  .loop <|
   .seq (.seq (.ops false [⟨none,[.mov (some 6) (.t 4),.mov (some 7) (.t 3),.len (some 8) false (.t 7),.bin (some 9) .lss (.t 6) (.t 8)]⟩]) <|
   .cond (.t 9)
    (.skip)
    (.exit 0)) <|
   .seq (.block 1 <|
    .seq (.ops false [⟨none,[.mov (some 12) (.t 3),.mov (some 13) (.t 4),.iadr (some 14) 1 (.t 12) (.t 13),.load (some 15) false 1 false (.t 14),.mov (some 16) (.t 0),.bin (some 17) .eql (.t 15) (.t 16)]⟩]) <|
    .cond (.t 17)
     (.seq (.ops false [⟨none,[.mov (some 18) (.t 4),.mov (some 2) (.t 18)]⟩]) <|
     .ret)
     (.skip)) <|
   .ops false [⟨none,[.mov (some 10) (.t 4),.bin (some 11) .add (.t 10) (.k (.int .i64 1)),.mov (some 4) (.t 11)]⟩]) <|
 .seq (.ops false [⟨none,[.mov (some 2) (.k (.int .i64 0))]⟩]) <|
 .ret
def e179:C :=
 .seq (.ops false [⟨none,[.alloc 2 179 [(.int .i64 0),(.int .i64 0),(.str [])],.mov (some 3) (.k (.bool false))]⟩]) <|
 .seq (.seq (.ops false [⟨none,[.mov (some 7) (.t 0),.bin (some 8) .eql (.t 7) (.k (.str [60,97,108,108,62]))]⟩]) <|
 .cond (.t 8)
  (.seq (.ops false [⟨none,[.build (some 9) [(.int .i64 0),(.int .i64 0),(.str [])] [(0,1,(.k (.int .i64 1)))],.store 3 (.t 2) (.t 9),.mov (some 3) (.k (.bool true))]⟩]) <|
  .ret)
  (.skip)) <|
 .seq (.seq (.ops false [⟨none,[.mov (some 4) (.k (.int .i64 0))]⟩]) <|
 .block 0 <|
  .loop <|
   .seq (.seq (.ops false [⟨none,[.mov (some 10) (.t 4),.bin (some 11) .lss (.t 10) (.k (.int .i64 6))]⟩]) <|
   .cond (.t 11)
    (.skip)
    (.exit 0)) <|
   .seq (.block 1 <|
    .seq (.ops false [⟨none,[.mov (some 14) (.t 0),.mov (some 15) (.t 4),.call (some 16) true 225 [(.t 15)],.bin (some 17) .eql (.t 14) (.t 16)]⟩]) <|
    .cond (.t 17)
     (.seq (.ops false [⟨none,[.mov (some 18) (.t 4),.build (some 19) [(.int .i64 0),(.str [])] [(0,1,(.t 18))],.build (some 20) [(.int .i64 0),(.int .i64 0),(.str [])] [(0,1,(.k (.int .i64 2))),(1,2,(.t 19))],.store 3 (.t 2) (.t 20),.mov (some 3) (.k (.bool true))]⟩]) <|
     .ret)
     (.skip)) <|
   .ops false [⟨none,[.mov (some 12) (.t 4),.bin (some 13) .add (.t 12) (.k (.int .i64 1)),.mov (some 4) (.t 13)]⟩]) <|
 .seq (.ops false [⟨none,[.mov (some 22) (.t 0),.call (some 23) true 226 [(.t 22)],.mov (some 21) (.t 23),.ext (some 24) 0 (.t 21),.ext (some 25) 1 (.t 21),.alloc 5 41 [(.int .i64 0),(.str [])],.store 2 (.t 5) (.t 24),.mov (some 6) (.t 25)]⟩]) <|
 .seq (.ops false [⟨none,[.load (some 26) false 2 true (.t 5),.build (some 27) [(.int .i64 0),(.int .i64 0),(.str [])] [(0,1,(.k (.int .i64 3))),(1,2,(.t 26))],.mov (some 28) (.t 6),.bin (some 29) .eql (.t 28) (.k (.int .i64 0)),.store 3 (.t 2) (.t 27),.mov (some 3) (.t 29)]⟩]) <|
 .ret
def e180:C :=
 .seq (.ops false [⟨none,[.mov (some 4) (.k (.str []))]⟩]) <|
 .seq (.seq (.ops false [⟨none,[.mov (some 5) (.k (.int .i64 0))]⟩]) <|
 .block 0 <|
  .loop <|
   .seq (.seq (.ops false [⟨none,[.mov (some 6) (.t 5),.mov (some 7) (.t 1),.bin (some 8) .lss (.t 6) (.t 7)]⟩]) <|
   .cond (.t 8)
    (.skip)
    (.exit 0)) <|
   .seq (.block 1 <|
    .seq (.ops false [⟨none,[.mov (some 11) (.t 0),.call (some 12) true 67 [(.t 11)],.mov (some 0) (.t 12)]⟩]) <|
    .block 2 <|
     .loop <|
      .seq (.seq (.ops false [⟨none,[.mov (some 13) (.t 0),.len (some 14) true (.t 13),.bin (some 15) .gtr (.t 14) (.k (.int .i64 0)),.mov (some 16) (.t 15)]⟩,
       ⟨some (16,true),[.mov (some 17) (.t 0),.idx (some 18) (.t 17) (.k (.int .i64 0)),.bin (some 19) .neq (.t 18) (.k (.int .u8 9))]⟩,
       ⟨none,[.pick (some 20) (.t 16) (.t 19) (.k (.bool false)),.mov (some 21) (.t 20)]⟩,
       ⟨some (21,true),[.mov (some 22) (.t 0),.idx (some 23) (.t 22) (.k (.int .i64 0)),.bin (some 24) .neq (.t 23) (.k (.int .u8 32))]⟩,
       ⟨none,[.pick (some 25) (.t 21) (.t 24) (.k (.bool false))]⟩]) <|
      .cond (.t 25)
       (.skip)
       (.exit 2)) <|
      .block 3 <|
       .ops false [⟨none,[.mov (some 26) (.t 0),.slcS (some 27) (.t 26) (some (.k (.int .i64 1))) none,.mov (some 0) (.t 27)]⟩]) <|
   .ops false [⟨none,[.mov (some 9) (.t 5),.bin (some 10) .add (.t 9) (.k (.int .i64 1)),.mov (some 5) (.t 10)]⟩]) <|
 .seq (.ops false [⟨none,[.mov (some 28) (.t 0),.call (some 29) true 67 [(.t 28)],.mov (some 4) (.t 29)]⟩]) <|
 .ret
def e181:C :=
 .seq (.ops false [⟨none,[.alloc 2 41 [(.int .i64 0),(.str [])],.mov (some 3) (.k (.str [])),.mov (some 4) (.k (.bool false))]⟩]) <|
 .seq (.ops false [⟨none,[.mov (some 5) (.k (.str []))]⟩]) <|
 .seq (.seq (.ops false [⟨none,[.mov (some 9) (.t 0),.call (some 10) true 169 [(.t 9),(.k (.str [124])),(.k (.int .i64 0))],.mov (some 6) (.t 10)]⟩]) <|
 .seq (.ops false [⟨none,[.mov (some 11) (.t 6),.bin (some 12) .geq (.t 11) (.k (.int .i64 0))]⟩]) <|
 .cond (.t 12)
  (.seq (.ops false [⟨none,[.mov (some 13) (.t 0),.mov (some 14) (.t 6),.bin (some 15) .add (.t 14) (.k (.int .i64 1)),.slcS (some 16) (.t 13) (some (.t 15)) none,.call (some 17) true 67 [(.t 16)],.mov (some 5) (.t 17)]⟩]) <|
  .seq (.seq (.ops false [⟨none,[.mov (some 18) (.t 5),.bin (some 19) .eql (.t 18) (.k (.str []))]⟩]) <|
  .cond (.t 19)
   (.seq (.ops false [⟨none,[.build (some 20) [(.int .i64 0),(.str [])] [],.store 2 (.t 2) (.t 20),.mov (some 3) (.k (.str [])),.mov (some 4) (.k (.bool false))]⟩]) <|
   .ret)
   (.skip)) <|
  .ops false [⟨none,[.mov (some 21) (.t 0),.mov (some 22) (.t 6),.slcS (some 23) (.t 21) none (some (.t 22)),.mov (some 0) (.t 23)]⟩])
  (.skip)) <|
 .seq (.ops false [⟨none,[.mov (some 25) (.t 0),.call (some 26) true 67 [(.t 25)],.call (some 27) true 226 [(.t 26)],.mov (some 24) (.t 27),.ext (some 28) 0 (.t 24),.ext (some 29) 1 (.t 24),.alloc 7 41 [(.int .i64 0),(.str [])],.store 2 (.t 7) (.t 28),.mov (some 8) (.t 29)]⟩]) <|
 .seq (.ops false [⟨none,[.load (some 30) false 2 true (.t 7),.mov (some 31) (.t 5),.mov (some 32) (.t 8),.bin (some 33) .eql (.t 32) (.k (.int .i64 0)),.store 2 (.t 2) (.t 30),.mov (some 3) (.t 31),.mov (some 4) (.t 33)]⟩]) <|
 .ret
def e182:C :=
 .seq (.ops false [⟨none,[.mov (some 4) (.k (.int .i64 0))]⟩]) <|
 .seq (.ops false [⟨none,[.mov (some 8) (.t 0),.mov (some 9) (.t 1),.iadr (some 10) 2 (.t 8) (.t 9),.load (some 11) false 2 true (.t 10),.alloc 5 165 [(.str []),.nils],.store 2 (.t 5) (.t 11)]⟩]) <|
 .seq (.seq (.ops false [⟨none,[.fadr (some 12) 0 (.t 5),.load (some 13) false 1 false (.t 12),.call (some 14) true 125 [(.t 13)],.un (some 15) .not (.t 14)]⟩]) <|
 .cond (.t 15)
  (.seq (.ops false [⟨none,[.mov (some 4) (.k (.int .i64 1))]⟩]) <|
  .ret)
  (.skip)) <|
 .seq (.seq (.ops true [⟨none,[.mov (some 16) (.t 0),.mov (some 17) (.t 1),.slc (some 18) 2 (.t 16) none (some (.t 17)),.fadr (some 19) 0 (.t 5),.load (some 20) false 1 false (.t 19),.call (some 21) true 183 [(.t 18),(.t 20)]]⟩]) <|
 .cond (.t 21)
  (.seq (.ops false [⟨none,[.mov (some 4) (.k (.int .i64 5))]⟩]) <|
  .ret)
  (.skip)) <|
 .seq (.seq (.ops false [⟨none,[.fadr (some 22) 1 (.t 5),.load (some 23) false 1 false (.t 22),.len (some 24) false (.t 23),.bin (some 25) .gtr (.t 24) (.k (.int .i64 24))]⟩]) <|
 .cond (.t 25)
  (.seq (.ops false [⟨none,[.mov (some 4) (.k (.int .i64 3))]⟩]) <|
  .ret)
  (.skip)) <|
 .seq (.seq (.ops false [⟨none,[.mov (some 6) (.k (.int .i64 0))]⟩]) <|
 .block 0 <|
  .loop <|
   .seq (.seq (.ops false [⟨none,[.mov (some 26) (.t 6),.fadr (some 27) 1 (.t 5),.load (some 28) false 1 false (.t 27),.len (some 29) false (.t 28),.bin (some 30) .lss (.t 26) (.t 29)]⟩]) <|
   .cond (.t 30)
    (.skip)
    (.exit 0)) <|
   .seq (.block 1 <|
    .seq (.ops false [⟨none,[.fadr (some 33) 1 (.t 5),.load (some 34) false 1 false (.t 33),.mov (some 35) (.t 6),.iadr (some 36) 1 (.t 34) (.t 35),.load (some 37) false 1 false (.t 36),.mov (some 7) (.t 37)]⟩]) <|
    .seq (.seq (.ops false [⟨none,[.mov (some 38) (.t 7),.len (some 39) true (.t 38),.bin (some 40) .gtr (.t 39) (.k (.int .i64 0)),.mov (some 41) (.t 40)]⟩,
     ⟨some (41,true),[.mov (some 42) (.t 7),.idx (some 43) (.t 42) (.k (.int .i64 0)),.bin (some 44) .eql (.t 43) (.k (.int .u8 64))]⟩,
     ⟨none,[.pick (some 45) (.t 41) (.t 44) (.k (.bool false))]⟩]) <|
    .cond (.t 45)
     (.seq (.seq (.ops false [⟨none,[.mov (some 46) (.t 7),.slcS (some 47) (.t 46) (some (.k (.int .i64 1))) none,.call (some 48) true 125 [(.t 47)],.un (some 49) .not (.t 48)]⟩]) <|
     .cond (.t 49)
      (.seq (.ops false [⟨none,[.mov (some 4) (.k (.int .i64 1))]⟩]) <|
      .ret)
      (.skip)) <|
     .seq (.seq (.ops false [⟨none,[.mov (some 50) (.t 0),.mov (some 51) (.t 7),.slcS (some 52) (.t 51) (some (.k (.int .i64 1))) none,.call (some 53) true 183 [(.t 50),(.t 52)],.un (some 54) .not (.t 53)]⟩]) <|
     .cond (.t 54)
      (.seq (.ops false [⟨none,[.mov (some 4) (.k (.int .i64 4))]⟩]) <|
      .ret)
      (.skip)) <|
     .exit 1)
     (.skip)) <|
    .seq (.ops false [⟨none,[.mov (some 55) (.t 7),.call (some 56) true 125 [(.t 55)],.un (some 57) .not (.t 56)]⟩]) <|
    .cond (.t 57)
     (.seq (.ops false [⟨none,[.mov (some 4) (.k (.int .i64 1))]⟩]) <|
     .ret)
     (.skip)) <|
   .ops false [⟨none,[.mov (some 31) (.t 6),.bin (some 32) .add (.t 31) (.k (.int .i64 1)),.mov (some 6) (.t 32)]⟩]) <|
 .seq (.ops false [⟨none,[.mov (some 4) (.k (.int .i64 0))]⟩]) <|
 .ret
def e183:C :=
 .seq (.ops false [⟨none,[.mov (some 4) (.k (.bool false))]⟩]) <|
 .seq (.seq (.ops false [⟨none,[.mov (some 5) (.k (.int .i64 0))]⟩]) <|
 .block 0 <|
  .loop <|
   .seq (.seq (.ops false [⟨none,[.mov (some 6) (.t 5),.mov (some 7) (.t 0),.len (some 8) false (.t 7),.bin (some 9) .lss (.t 6) (.t 8)]⟩]) <|
   .cond (.t 9)
    (.skip)
    (.exit 0)) <|
   .seq (.block 1 <|
    .seq (.ops false [⟨none,[.mov (some 12) (.t 0),.mov (some 13) (.t 5),.iadr (some 14) 2 (.t 12) (.t 13),.fadr (some 15) 0 (.t 14),.load (some 16) false 1 false (.t 15),.mov (some 17) (.t 1),.bin (some 18) .eql (.t 16) (.t 17)]⟩]) <|
    .cond (.t 18)
     (.seq (.ops false [⟨none,[.mov (some 4) (.k (.bool true))]⟩]) <|
     .ret)
     (.skip)) <|
   .ops false [⟨none,[.mov (some 10) (.t 5),.bin (some 11) .add (.t 10) (.k (.int .i64 1)),.mov (some 5) (.t 11)]⟩]) <|
 .seq (.ops false [⟨none,[.mov (some 19) (.t 1),.call (some 20) true 227 [(.t 19)],.mov (some 4) (.t 20)]⟩]) <|
 .ret
def e184:C :=
 .seq (.ops false [⟨none,[.box 1 179 (.t 0),.mov (some 2) (.k (.bool false))]⟩]) <|
 .seq (.seq (.ops false [⟨none,[.fadr (some 3) 0 (.t 1),.load (some 4) false 1 false (.t 3)]⟩]) <|
 .block 0 <|
  .seq (.ops false [⟨none,[.bin (some 6) .eql (.t 4) (.k (.int .i64 1)),.mov (some 5) (.t 6)]⟩]) <|
  .cond (.t 5)
   (.seq (.ops false [⟨none,[.fadr (some 7) 1 (.t 1),.load (some 8) false 2 true (.t 7),.build (some 9) [(.int .i64 0),(.str [])] [],.eqA (some 10) false [0,1] (.t 8) (.t 9),.mov (some 2) (.t 10)]⟩]) <|
   .ret)
   (.seq (.ops false [⟨none,[.bin (some 12) .eql (.t 4) (.k (.int .i64 2)),.mov (some 11) (.t 12)]⟩]) <|
   .cond (.t 11)
    (.seq (.ops false [⟨none,[.fadr (some 13) 1 (.t 1),.fadr (some 14) 0 (.t 13),.load (some 15) false 1 false (.t 14),.bin (some 16) .geq (.t 15) (.k (.int .i64 0)),.mov (some 17) (.t 16)]⟩,
     ⟨some (17,true),[.fadr (some 18) 1 (.t 1),.fadr (some 19) 0 (.t 18),.load (some 20) false 1 false (.t 19),.bin (some 21) .lss (.t 20) (.k (.int .i64 6))]⟩,
     ⟨none,[.pick (some 22) (.t 17) (.t 21) (.k (.bool false)),.mov (some 23) (.t 22)]⟩,
     ⟨some (23,true),[.fadr (some 24) 1 (.t 1),.fadr (some 25) 1 (.t 24),.load (some 26) false 1 false (.t 25),.bin (some 27) .eql (.t 26) (.k (.str []))]⟩,
     ⟨none,[.pick (some 28) (.t 23) (.t 27) (.k (.bool false)),.mov (some 2) (.t 28)]⟩]) <|
    .ret)
    (.seq (.ops false [⟨none,[.bin (some 30) .eql (.t 4) (.k (.int .i64 3)),.mov (some 29) (.t 30)]⟩]) <|
    .cond (.t 29)
     (.seq (.ops false [⟨none,[.fadr (some 31) 1 (.t 1),.load (some 32) false 2 true (.t 31),.call (some 33) true 121 [(.t 32)],.mov (some 2) (.t 33)]⟩]) <|
     .ret)
     (.skip)))) <|
 .seq (.ops false [⟨none,[.mov (some 2) (.k (.bool false))]⟩]) <|
 .ret
def e185:C :=
 .seq (.ops false [⟨none,[.mov (some 2) (.k (.bool false))]⟩]) <|
 .seq (.seq (.ops false [⟨none,[.mov (some 3) (.t 0),.len (some 4) true (.t 3),.bin (some 5) .gtr (.t 4) (.k (.int .i64 100)),.mov (some 6) (.t 5)]⟩,
  ⟨some (6,false),[.mov (some 7) (.t 0),.call (some 8) true 67 [(.t 7)],.mov (some 9) (.t 0),.bin (some 10) .neq (.t 8) (.t 9)]⟩,
  ⟨none,[.pick (some 11) (.t 6) (.k (.bool true)) (.t 10)]⟩]) <|
 .cond (.t 11)
  (.seq (.ops false [⟨none,[.mov (some 2) (.k (.bool false))]⟩]) <|
  .ret)
  (.skip)) <|
 .seq (.ops false [⟨none,[.mov (some 12) (.t 0),.call (some 13) true 169 [(.t 12),(.k (.str [10])),(.k (.int .i64 0))],.bin (some 14) .lss (.t 13) (.k (.int .i64 0)),.mov (some 15) (.t 14)]⟩,
  ⟨some (15,true),[.mov (some 16) (.t 0),.call (some 17) true 169 [(.t 16),(.k (.str [124])),(.k (.int .i64 0))],.bin (some 18) .lss (.t 17) (.k (.int .i64 0))]⟩,
  ⟨none,[.pick (some 19) (.t 15) (.t 18) (.k (.bool false)),.mov (some 2) (.t 19)]⟩]) <|
 .ret
def e186:C :=
 .seq (.ops false [⟨none,[.mov (some 8) (.t 1),.bin (some 9) .add (.t 8) (.k (.int .i64 1)),.mov (some 6) (.t 9)]⟩]) <|
 .block 0 <|
  .loop <|
   .seq (.seq (.ops false [⟨none,[.mov (some 10) (.t 6),.mov (some 11) (.t 2),.bin (some 12) .lss (.t 10) (.t 11)]⟩]) <|
   .cond (.t 12)
    (.skip)
    (.exit 0)) <|
   .seq (.block 1 <|
    .seq (.ops false [⟨none,[.mov (some 15) (.t 6),.mov (some 7) (.t 15)]⟩]) <|
    .block 2 <|
     .loop <|
      .seq (.seq (.ops true [⟨none,[.mov (some 16) (.t 7),.mov (some 17) (.t 1),.bin (some 18) .gtr (.t 16) (.t 17),.mov (some 19) (.t 18)]⟩,
       ⟨some (19,true),[.mov (some 20) (.t 0),.mov (some 21) (.t 7),.iadr (some 22) 1 (.t 20) (.t 21),.load (some 23) false 1 false (.t 22),.mov (some 24) (.t 0),.mov (some 25) (.t 7),.bin (some 26) .sub (.t 25) (.k (.int .i64 1)),.iadr (some 27) 1 (.t 24) (.t 26),.load (some 28) false 1 false (.t 27),.call (some 29) true 192 [(.t 23),(.t 28)]]⟩,
       ⟨none,[.pick (some 30) (.t 19) (.t 29) (.k (.bool false))]⟩]) <|
      .cond (.t 30)
       (.skip)
       (.exit 2)) <|
      .seq (.block 3 <|
       .ops true [⟨none,[.mov (some 33) (.t 0),.mov (some 34) (.t 7),.mov (some 35) (.t 0),.mov (some 36) (.t 7),.bin (some 37) .sub (.t 36) (.k (.int .i64 1)),.mov (some 38) (.t 0),.mov (some 39) (.t 7),.bin (some 40) .sub (.t 39) (.k (.int .i64 1)),.iadr (some 41) 1 (.t 38) (.t 40),.load (some 42) false 1 false (.t 41),.mov (some 43) (.t 0),.mov (some 44) (.t 7),.iadr (some 45) 1 (.t 43) (.t 44),.load (some 46) false 1 false (.t 45),.iadr (some 47) 1 (.t 33) (.t 34),.store 1 (.t 47) (.t 42),.iadr (some 48) 1 (.t 35) (.t 37),.store 1 (.t 48) (.t 46)]⟩]) <|
      .ops false [⟨none,[.mov (some 31) (.t 7),.bin (some 32) .sub (.t 31) (.k (.int .i64 1)),.mov (some 7) (.t 32)]⟩]) <|
   .ops false [⟨none,[.mov (some 13) (.t 6),.bin (some 14) .add (.t 13) (.k (.int .i64 1)),.mov (some 6) (.t 14)]⟩]
def e192:C :=
 .seq (.ops false [⟨none,[.mov (some 4) (.k (.bool false))]⟩]) <|
 .seq (.ops false [⟨none,[.mov (some 5) (.t 0),.call (some 6) true 233 [(.t 5)],.mov (some 7) (.t 6)]⟩,
  ⟨some (7,true),[.mov (some 8) (.t 1),.call (some 9) true 233 [(.t 8)],.un (some 10) .not (.t 9)]⟩,
  ⟨none,[.pick (some 11) (.t 7) (.t 10) (.k (.bool false)),.mov (some 12) (.t 11)]⟩,
  ⟨some (12,false),[.mov (some 13) (.t 0),.mov (some 14) (.t 1),.bin (some 15) .lss (.t 13) (.t 14)]⟩,
  ⟨none,[.pick (some 16) (.t 12) (.k (.bool true)) (.t 15),.mov (some 4) (.t 16)]⟩]) <|
 .ret
def e196:C :=
 .seq (.ops false [⟨none,[.mov (some 2) (.k (.int .i64 0))]⟩]) <|
 .seq (.seq (.ops false [⟨none,[.mov (some 3) (.t 0),.bin (some 4) .geq (.t 3) (.k (.int .u64 4294967296))]⟩]) <|
 .cond (.t 4)
  (.seq (.ops false [⟨none,[.mov (some 5) (.t 0),.bin (some 6) .shr (.t 5) (.k (.int .u64 32)),.mov (some 0) (.t 6)]⟩]) <|
  .ops false [⟨none,[.mov (some 2) (.k (.int .i64 32))]⟩])
  (.skip)) <|
 .seq (.seq (.ops false [⟨none,[.mov (some 7) (.t 0),.bin (some 8) .geq (.t 7) (.k (.int .u64 65536))]⟩]) <|
 .cond (.t 8)
  (.seq (.ops false [⟨none,[.mov (some 9) (.t 0),.bin (some 10) .shr (.t 9) (.k (.int .u64 16)),.mov (some 0) (.t 10)]⟩]) <|
  .ops false [⟨none,[.mov (some 11) (.t 2),.bin (some 12) .add (.t 11) (.k (.int .i64 16)),.mov (some 2) (.t 12)]⟩])
  (.skip)) <|
 .seq (.seq (.ops false [⟨none,[.mov (some 13) (.t 0),.bin (some 14) .geq (.t 13) (.k (.int .u64 256))]⟩]) <|
 .cond (.t 14)
  (.seq (.ops false [⟨none,[.mov (some 15) (.t 0),.bin (some 16) .shr (.t 15) (.k (.int .u64 8)),.mov (some 0) (.t 16)]⟩]) <|
  .ops false [⟨none,[.mov (some 17) (.t 2),.bin (some 18) .add (.t 17) (.k (.int .i64 8)),.mov (some 2) (.t 18)]⟩])
  (.skip)) <|
 .seq (.ops false [⟨none,[.mov (some 19) (.t 2),.mov (some 20) (.t 0),.cvt (some 21) .u8 (.t 20),.idx (some 22) (.k (.str [0,1,2,2,3,3,3,3,4,4,4,4,4,4,4,4,5,5,5,5,5,5,5,5,5,5,5,5,5,5,5,5,6,6,6,6,6,6,6,6,6,6,6,6,6,6,6,6,6,6,6,6,6,6,6,6,6,6,6,6,6,6,6,6,7,7,7,7,7,7,7,7,7,7,7,7,7,7,7,7,7,7,7,7,7,7,7,7,7,7,7,7,7,7,7,7,7,7,7,7,7,7,7,7,7,7,7,7,7,7,7,7,7,7,7,7,7,7,7,7,7,7,7,7,7,7,7,7,8,8,8,8,8,8,8,8,8,8,8,8,8,8,8,8,8,8,8,8,8,8,8,8,8,8,8,8,8,8,8,8,8,8,8,8,8,8,8,8,8,8,8,8,8,8,8,8,8,8,8,8,8,8,8,8,8,8,8,8,8,8,8,8,8,8,8,8,8,8,8,8,8,8,8,8,8,8,8,8,8,8,8,8,8,8,8,8,8,8,8,8,8,8,8,8,8,8,8,8,8,8,8,8,8,8,8,8,8,8,8,8,8,8,8,8,8,8,8,8,8,8,8,8,8,8,8,8])) (.t 21),.cvt (some 23) .i64 (.t 22),.bin (some 24) .add (.t 19) (.t 23),.mov (some 2) (.t 24)]⟩]) <|
 .ret
def e212:C :=
 .seq (.ops false [⟨none,[.mov (some 0) (.k .nils)]⟩]) <|
 .seq (.ops false [⟨none,[.mkl (some 1) 1 [(.k (.str [114,101,97,100])),(.k (.str [101,100,105,116])),(.k (.str [109,111,118,101])),(.k (.str [100,101,108,101,116,101])),(.k (.str [114,101,118,105,101,119]))],.mov (some 0) (.t 1)]⟩]) <|
 .ret
def e214:C :=
 .seq (.ops false [⟨none,[.alloc 2 41 [(.int .i64 0),(.str [])],.mov (some 3) (.k (.int .i64 0))]⟩]) <|
 .seq (.ops false [⟨none,[.mov (some 8) (.t 0),.call (some 9) true 255 [(.t 8),(.k (.str [95])),(.k (.str [32]))],.call (some 10) true 254 [(.t 9)],.mov (some 0) (.t 10)]⟩]) <|
 .seq (.seq (.ops false [⟨none,[.mov (some 11) (.t 0),.call (some 12) true 256 [(.t 11),(.k (.str [58]))]]⟩]) <|
 .cond (.t 12)
  (.ops false [⟨none,[.mov (some 13) (.t 0),.slcS (some 14) (.t 13) (some (.k (.int .i64 1))) none,.call (some 15) true 257 [(.t 14),(.k (.str [32]))],.mov (some 0) (.t 15)]⟩])
  (.skip)) <|
 .seq (.ops false [⟨none,[.build (some 16) [(.int .i64 0),(.str [])] [],.alloc 4 41 [(.int .i64 0),(.str [])],.store 2 (.t 4) (.t 16)]⟩]) <|
 .seq (.seq (.ops false [⟨none,[.mov (some 18) (.t 0),.call (some 19) true 52 [(.t 18)],.mov (some 17) (.t 19),.ext (some 20) 0 (.t 17),.ext (some 21) 1 (.t 17),.ext (some 22) 2 (.t 17),.mov (some 5) (.t 20),.mov (some 6) (.t 21),.mov (some 7) (.t 22)]⟩]) <|
 .seq (.ops false [⟨none,[.mov (some 23) (.t 7)]⟩]) <|
 .cond (.t 23)
  (.ops false [⟨none,[.mov (some 24) (.t 5),.mov (some 25) (.t 6),.call (some 26) true 257 [(.t 25),(.k (.str [32]))],.fadr (some 27) 0 (.t 4),.store 1 (.t 27) (.t 24),.mov (some 0) (.t 26)]⟩])
  (.skip)) <|
 .seq (.ops false [⟨none,[.mov (some 28) (.t 0),.call (some 29) true 258 [(.t 28)],.mov (some 0) (.t 29)]⟩]) <|
 .seq (.seq (.ops false [⟨none,[.mov (some 30) (.t 0),.bin (some 31) .neq (.t 30) (.k (.str [])),.mov (some 32) (.t 31)]⟩,
  ⟨some (32,true),[.mov (some 33) (.t 0),.idx (some 34) (.t 33) (.k (.int .i64 0)),.bin (some 35) .geq (.t 34) (.k (.int .u8 97))]⟩,
  ⟨none,[.pick (some 36) (.t 32) (.t 35) (.k (.bool false)),.mov (some 37) (.t 36)]⟩,
  ⟨some (37,true),[.mov (some 38) (.t 0),.idx (some 39) (.t 38) (.k (.int .i64 0)),.bin (some 40) .leq (.t 39) (.k (.int .u8 122))]⟩,
  ⟨none,[.pick (some 41) (.t 37) (.t 40) (.k (.bool false))]⟩]) <|
 .cond (.t 41)
  (.ops true [⟨none,[.mov (some 42) (.t 0),.idx (some 43) (.t 42) (.k (.int .i64 0)),.bin (some 44) .sub (.t 43) (.k (.int .u8 32)),.mkl (some 45) 1 [(.t 44)],.b2s (some 46) (.t 45),.mov (some 47) (.t 0),.slcS (some 48) (.t 47) (some (.k (.int .i64 1))) none,.bin (some 49) .add (.t 46) (.t 48),.mov (some 0) (.t 49)]⟩])
  (.skip)) <|
 .seq (.ops false [⟨none,[.mov (some 50) (.t 0),.fadr (some 51) 1 (.t 4),.store 1 (.t 51) (.t 50)]⟩]) <|
 .seq (.seq (.ops false [⟨none,[.mov (some 52) (.t 0),.len (some 53) true (.t 52),.bin (some 54) .gtr (.t 53) (.k (.int .i64 100))]⟩]) <|
 .cond (.t 54)
  (.seq (.ops false [⟨none,[.build (some 55) [(.int .i64 0),(.str [])] [],.store 2 (.t 2) (.t 55),.mov (some 3) (.k (.int .i64 3))]⟩]) <|
  .ret)
  (.skip)) <|
 .seq (.seq (.ops false [⟨none,[.load (some 56) false 2 true (.t 4),.call (some 57) true 24 [(.t 56)],.un (some 58) .not (.t 57)]⟩]) <|
 .cond (.t 58)
  (.seq (.ops false [⟨none,[.build (some 59) [(.int .i64 0),(.str [])] [],.store 2 (.t 2) (.t 59),.mov (some 3) (.k (.int .i64 1))]⟩]) <|
  .ret)
  (.skip)) <|
 .seq (.ops false [⟨none,[.load (some 60) false 2 true (.t 4),.store 2 (.t 2) (.t 60),.mov (some 3) (.k (.int .i64 0))]⟩]) <|
 .ret
def e215:C :=
 .seq (.ops false [⟨none,[.mov (some 2) (.k (.bool false))]⟩]) <|
 .seq (.ops false [⟨none,[.mov (some 3) (.t 0),.bin (some 4) .eql (.t 3) (.k (.str [97,108,108])),.mov (some 5) (.t 4)]⟩,
  ⟨some (5,false),[.mov (some 6) (.t 0),.bin (some 7) .eql (.t 6) (.k (.str [117,115,101,114,115]))]⟩,
  ⟨none,[.pick (some 8) (.t 5) (.k (.bool true)) (.t 7),.mov (some 2) (.t 8)]⟩]) <|
 .ret
def e216:C :=
 .seq (.ops false [⟨none,[.mov (some 4) (.k (.bool false))]⟩]) <|
 .seq (.ops false [⟨none,[.mov (some 5) (.t 0),.mov (some 6) (.t 1),.call (some 7) true 259 [(.t 5),(.t 6)],.bin (some 8) .geq (.t 7) (.k (.int .i64 0)),.mov (some 4) (.t 8)]⟩]) <|
 .ret
def e218:C :=
 .seq (.ops false [⟨none,[.mov (some 4) (.k (.str [])),.mov (some 5) (.k (.bool false))]⟩]) <|
 .seq (.ops false [⟨none,[.mov (some 6) (.t 0),.mov (some 7) (.t 1),.call (some 8) true 260 [(.t 6),(.t 7)],.ext (some 9) 0 (.t 8),.ext (some 10) 1 (.t 8),.mov (some 4) (.t 9),.mov (some 5) (.t 10)]⟩]) <|
 .ret
def e219:C :=
 .seq (.ops false [⟨none,[.box 2 78 (.t 0),.box 3 9 (.t 1),.mov (some 4) (.k (.bool false))]⟩]) <|
 .seq (.ops false [⟨none,[.load (some 5) false 1 false (.t 3),.call (some 6) true 215 [(.t 5)],.mov (some 7) (.t 6)]⟩,
  ⟨some (7,false),[.fadr (some 8) 0 (.t 2),.load (some 9) false 1 false (.t 8),.clos (some 10) 261 [(.t 3)],.call (some 11) false 216 [(.t 9),(.t 10)]]⟩,
  ⟨none,[.pick (some 12) (.t 7) (.k (.bool true)) (.t 11),.mov (some 4) (.t 12)]⟩]) <|
 .ret
def e226:C :=
 .seq (.ops false [⟨none,[.alloc 2 41 [(.int .i64 0),(.str [])],.mov (some 3) (.k (.int .i64 0))]⟩]) <|
 .seq (.ops false [⟨none,[.mov (some 9) (.t 0),.call (some 10) true 264 [(.t 9)],.mov (some 0) (.t 10)]⟩]) <|
 .seq (.seq (.ops false [⟨none,[.mov (some 11) (.t 0),.len (some 12) true (.t 11),.bin (some 13) .gtr (.t 12) (.k (.int .i64 0)),.mov (some 14) (.t 13)]⟩,
  ⟨some (14,true),[.mov (some 15) (.t 0),.idx (some 16) (.t 15) (.k (.int .i64 0)),.bin (some 17) .eql (.t 16) (.k (.int .u8 58))]⟩,
  ⟨none,[.pick (some 18) (.t 14) (.t 17) (.k (.bool false))]⟩]) <|
 .cond (.t 18)
  (.ops false [⟨none,[.mov (some 19) (.t 0),.call (some 20) true 265 [(.t 19),(.k (.int .i64 1))],.mov (some 0) (.t 20)]⟩])
  (.skip)) <|
 .seq (.ops false [⟨none,[.mov (some 22) (.t 0),.call (some 23) true 175 [(.t 22)],.mov (some 21) (.t 23),.ext (some 24) 0 (.t 21),.ext (some 25) 1 (.t 21),.mov (some 4) (.t 24),.mov (some 5) (.t 25)]⟩]) <|
 .seq (.seq (.ops false [⟨none,[.mov (some 26) (.t 4),.bin (some 27) .gtr (.t 26) (.k (.int .i64 0))]⟩]) <|
 .cond (.t 27)
  (.ops false [⟨none,[.mov (some 28) (.t 0),.mov (some 29) (.t 5),.bin (some 30) .add (.t 29) (.k (.int .i64 1)),.call (some 31) true 265 [(.t 28),(.t 30)],.mov (some 0) (.t 31)]⟩])
  (.skip)) <|
 .seq (.ops false [⟨none,[.mov (some 6) (.k (.str []))]⟩]) <|
 .seq (.seq (.ops false [⟨none,[.mov (some 7) (.k (.int .i64 0))]⟩]) <|
 .block 0 <|
  .loop <|
   .seq (.seq (.ops false [⟨none,[.mov (some 32) (.t 7),.mov (some 33) (.t 0),.len (some 34) true (.t 33),.bin (some 35) .lss (.t 32) (.t 34)]⟩]) <|
   .cond (.t 35)
    (.skip)
    (.exit 0)) <|
   .seq (.block 1 <|
    .seq (.seq (.ops false [⟨none,[.mov (some 38) (.t 0),.mov (some 39) (.t 7),.idx (some 40) (.t 38) (.t 39),.bin (some 41) .eql (.t 40) (.k (.int .u8 32)),.mov (some 42) (.t 41)]⟩,
     ⟨some (42,true),[.mov (some 43) (.t 7),.bin (some 44) .gtr (.t 43) (.k (.int .i64 0)),.mov (some 45) (.t 44)]⟩,
     ⟨some (45,true),[.mov (some 46) (.t 0),.mov (some 47) (.t 7),.bin (some 48) .sub (.t 47) (.k (.int .i64 1)),.idx (some 49) (.t 46) (.t 48),.bin (some 50) .eql (.t 49) (.k (.int .u8 47))]⟩,
     ⟨some (42,true),[.pick (some 51) (.t 45) (.t 50) (.k (.bool false)),.mov (some 52) (.t 51)]⟩,
     ⟨some (52,false),[.mov (some 53) (.t 7),.bin (some 54) .add (.t 53) (.k (.int .i64 1)),.mov (some 55) (.t 0),.len (some 56) true (.t 55),.bin (some 57) .lss (.t 54) (.t 56),.mov (some 58) (.t 57)]⟩,
     ⟨some (58,true),[.mov (some 59) (.t 0),.mov (some 60) (.t 7),.bin (some 61) .add (.t 60) (.k (.int .i64 1)),.idx (some 62) (.t 59) (.t 61),.bin (some 63) .eql (.t 62) (.k (.int .u8 47))]⟩,
     ⟨some (52,false),[.pick (some 64) (.t 58) (.t 63) (.k (.bool false))]⟩,
     ⟨some (42,true),[.pick (some 65) (.t 52) (.k (.bool true)) (.t 64)]⟩,
     ⟨none,[.pick (some 66) (.t 42) (.t 65) (.k (.bool false))]⟩]) <|
    .cond (.t 66)
     (.exit 1)
     (.skip)) <|
    .ops false [⟨none,[.mov (some 67) (.t 6),.mov (some 68) (.t 0),.mov (some 69) (.t 7),.mov (some 70) (.t 7),.bin (some 71) .add (.t 70) (.k (.int .i64 1)),.slcS (some 72) (.t 68) (some (.t 69)) (some (.t 71)),.bin (some 73) .add (.t 67) (.t 72),.mov (some 6) (.t 73)]⟩]) <|
   .ops false [⟨none,[.mov (some 36) (.t 7),.bin (some 37) .add (.t 36) (.k (.int .i64 1)),.mov (some 7) (.t 37)]⟩]) <|
 .seq (.seq (.ops false [⟨none,[.mov (some 74) (.t 6),.len (some 75) true (.t 74),.bin (some 76) .gtr (.t 75) (.k (.int .i64 0)),.mov (some 77) (.t 76)]⟩,
  ⟨some (77,true),[.mov (some 78) (.t 6),.idx (some 79) (.t 78) (.k (.int .i64 0)),.bin (some 80) .geq (.t 79) (.k (.int .u8 97))]⟩,
  ⟨none,[.pick (some 81) (.t 77) (.t 80) (.k (.bool false)),.mov (some 82) (.t 81)]⟩,
  ⟨some (82,true),[.mov (some 83) (.t 6),.idx (some 84) (.t 83) (.k (.int .i64 0)),.bin (some 85) .leq (.t 84) (.k (.int .u8 122))]⟩,
  ⟨none,[.pick (some 86) (.t 82) (.t 85) (.k (.bool false))]⟩]) <|
 .cond (.t 86)
  (.ops true [⟨none,[.mov (some 87) (.t 6),.idx (some 88) (.t 87) (.k (.int .i64 0)),.bin (some 89) .sub (.t 88) (.k (.int .u8 32)),.mkl (some 90) 1 [(.t 89)],.b2s (some 91) (.t 90),.mov (some 92) (.t 6),.slcS (some 93) (.t 92) (some (.k (.int .i64 1))) none,.bin (some 94) .add (.t 91) (.t 93),.mov (some 6) (.t 94)]⟩])
  (.skip)) <|
 .seq (.seq (.ops false [⟨none,[.mov (some 95) (.t 6),.len (some 96) true (.t 95),.bin (some 97) .gtr (.t 96) (.k (.int .i64 100))]⟩]) <|
 .cond (.t 97)
  (.seq (.ops false [⟨none,[.build (some 98) [(.int .i64 0),(.str [])] [],.store 2 (.t 2) (.t 98),.mov (some 3) (.k (.int .i64 3))]⟩]) <|
  .ret)
  (.skip)) <|
 .seq (.ops false [⟨none,[.mov (some 99) (.t 4),.mov (some 100) (.t 6),.build (some 101) [(.int .i64 0),(.str [])] [(0,1,(.t 99)),(1,1,(.t 100))],.alloc 8 41 [(.int .i64 0),(.str [])],.store 2 (.t 8) (.t 101)]⟩]) <|
 .seq (.seq (.ops false [⟨none,[.load (some 102) false 2 true (.t 8),.call (some 103) true 121 [(.t 102)],.un (some 104) .not (.t 103)]⟩]) <|
 .cond (.t 104)
  (.seq (.ops false [⟨none,[.build (some 105) [(.int .i64 0),(.str [])] [],.store 2 (.t 2) (.t 105),.mov (some 3) (.k (.int .i64 1))]⟩]) <|
  .ret)
  (.skip)) <|
 .seq (.ops false [⟨none,[.load (some 106) false 2 true (.t 8),.store 2 (.t 2) (.t 106),.mov (some 3) (.k (.int .i64 0))]⟩]) <|
 .ret
def e227:C :=
 .seq (.ops false [⟨none,[.mov (some 2) (.k (.bool false))]⟩]) <|
 .seq (.ops false [⟨none,[.mov (some 3) (.t 0),.bin (some 4) .eql (.t 3) (.k (.str [97,108,108])),.mov (some 5) (.t 4)]⟩,
  ⟨some (5,false),[.mov (some 6) (.t 0),.bin (some 7) .eql (.t 6) (.k (.str [117,115,101,114,115]))]⟩,
  ⟨none,[.pick (some 8) (.t 5) (.k (.bool true)) (.t 7),.mov (some 2) (.t 8)]⟩]) <|
 .ret
def e233:C :=
 .seq (.ops false [⟨none,[.mov (some 2) (.k (.bool false))]⟩]) <|
 .seq (.ops false [⟨none,[.mov (some 3) (.t 0),.mov (some 4) (.t 0),.bin (some 5) .neq (.t 3) (.t 4),.mov (some 2) (.t 5)]⟩]) <|
 .ret
def e254:C :=
 .seq (.ops false [⟨none,[.mov (some 2) (.k (.str []))]⟩]) <|
 .seq (.ops false [⟨none,[.mov (some 5) (.t 0),.len (some 6) true (.t 5),.mk0 7 5 1 (.t 6),.mov (some 3) (.t 7)]⟩]) <|
 .seq (.seq (.ops false [⟨none,[.mov (some 4) (.k (.int .i64 0))]⟩]) <|
 .block 0 <|
  .loop <|
   .seq (.seq (.ops false [⟨none,[.mov (some 8) (.t 4),.mov (some 9) (.t 0),.len (some 10) true (.t 9),.bin (some 11) .lss (.t 8) (.t 10)]⟩]) <|
   .cond (.t 11)
    (.skip)
    (.exit 0)) <|
   .seq (.block 1 <|
    .seq (.ops false [⟨none,[.mov (some 14) (.t 0),.mov (some 15) (.t 4),.idx (some 16) (.t 14) (.t 15),.bin (some 17) .neq (.t 16) (.k (.int .u8 32)),.mov (some 18) (.t 17)]⟩,
     ⟨some (18,false),[.mov (some 19) (.t 3),.len (some 20) false (.t 19),.bin (some 21) .gtr (.t 20) (.k (.int .i64 0)),.mov (some 22) (.t 21)]⟩,
     ⟨some (22,true),[.mov (some 23) (.t 3),.mov (some 24) (.t 3),.len (some 25) false (.t 24),.bin (some 26) .sub (.t 25) (.k (.int .i64 1)),.iadr (some 27) 1 (.t 23) (.t 26),.load (some 28) false 1 false (.t 27),.bin (some 29) .neq (.t 28) (.k (.int .u8 32))]⟩,
     ⟨some (18,false),[.pick (some 30) (.t 22) (.t 29) (.k (.bool false))]⟩,
     ⟨none,[.pick (some 31) (.t 18) (.k (.bool true)) (.t 30)]⟩]) <|
    .cond (.t 31)
     (.ops false [⟨none,[.mov (some 32) (.t 3),.mov (some 33) (.t 0),.mov (some 34) (.t 4),.idx (some 35) (.t 33) (.t 34),.mkl (some 36) 1 [(.t 35)],.app 37 5 1 (.t 32) (.t 36),.mov (some 3) (.t 37)]⟩])
     (.skip)) <|
   .ops false [⟨none,[.mov (some 12) (.t 4),.bin (some 13) .add (.t 12) (.k (.int .i64 1)),.mov (some 4) (.t 13)]⟩]) <|
 .seq (.ops false [⟨none,[.mov (some 38) (.t 3),.b2s (some 39) (.t 38),.call (some 40) true 92 [(.t 39),(.k (.str [32]))],.mov (some 2) (.t 40)]⟩]) <|
 .ret
def e256:C :=
 .seq (.ops false [⟨none,[.mov (some 4) (.k (.bool false))]⟩]) <|
 .seq (.ops false [⟨none,[.mov (some 5) (.t 0),.mov (some 6) (.t 1),.call (some 7) true 278 [(.t 5),(.t 6)],.mov (some 4) (.t 7)]⟩]) <|
 .ret
def e258:C :=
 .seq (.ops false [⟨none,[.mov (some 2) (.k (.str []))]⟩]) <|
 .seq (.ops false [⟨none,[.mov (some 5) (.t 0),.call (some 6) true 51 [(.t 5),(.k (.str [47]))],.mov (some 3) (.t 6)]⟩]) <|
 .seq (.seq (.ops false [⟨none,[.mov (some 7) (.t 3),.len (some 8) false (.t 7),.mov (some 9) (.k (.int .i64 0))]⟩]) <|
 .block 0 <|
  .loop <|
   .seq (.ops false [⟨none,[.bin (some 10) .lss (.t 9) (.t 8)]⟩]) <|
   .seq (.cond (.t 10)
    (.skip)
    (.exit 0)) <|
   .seq (.block 1 <|
    .seq (.ops false [⟨none,[.mov (some 11) (.t 9),.mov (some 4) (.t 11)]⟩]) <|
    .seq (.seq (.ops false [⟨none,[.mov (some 12) (.t 4),.bin (some 13) .gtr (.t 12) (.k (.int .i64 0))]⟩]) <|
    .cond (.t 13)
     (.ops false [⟨none,[.mov (some 14) (.t 3),.mov (some 15) (.t 4),.mov (some 16) (.t 3),.mov (some 17) (.t 4),.iadr (some 18) 1 (.t 16) (.t 17),.load (some 19) false 1 false (.t 18),.call (some 20) true 241 [(.t 19),(.k (.str [32]))],.iadr (some 21) 1 (.t 14) (.t 15),.store 1 (.t 21) (.t 20)]⟩])
     (.skip)) <|
    .seq (.ops false [⟨none,[.mov (some 22) (.t 4),.mov (some 23) (.t 3),.len (some 24) false (.t 23),.bin (some 25) .sub (.t 24) (.k (.int .i64 1)),.bin (some 26) .lss (.t 22) (.t 25)]⟩]) <|
    .cond (.t 26)
     (.ops false [⟨none,[.mov (some 27) (.t 3),.mov (some 28) (.t 4),.mov (some 29) (.t 3),.mov (some 30) (.t 4),.iadr (some 31) 1 (.t 29) (.t 30),.load (some 32) false 1 false (.t 31),.call (some 33) true 240 [(.t 32),(.k (.str [32]))],.iadr (some 34) 1 (.t 27) (.t 28),.store 1 (.t 34) (.t 33)]⟩])
     (.skip)) <|
   .ops false [⟨none,[.bin (some 35) .add (.t 9) (.k (.int .i64 1)),.mov (some 9) (.t 35)]⟩]) <|
 .seq (.ops false [⟨none,[.mov (some 36) (.t 3),.call (some 37) true 280 [(.t 36),(.k (.str [47]))],.mov (some 2) (.t 37)]⟩]) <|
 .ret
def e259:C :=
 .seq (.ops false [⟨none,[.mov (some 4) (.k (.int .i64 0))]⟩]) <|
 .seq (.seq (.ops false [⟨none,[.mov (some 6) (.t 0),.len (some 7) false (.t 6),.mov (some 8) (.k (.int .i64 0))]⟩]) <|
 .block 0 <|
  .loop <|
   .seq (.ops false [⟨none,[.bin (some 9) .lss (.t 8) (.t 7)]⟩]) <|
   .seq (.cond (.t 9)
    (.skip)
    (.exit 0)) <|
   .seq (.block 1 <|
    .seq (.ops false [⟨none,[.mov (some 10) (.t 8),.mov (some 5) (.t 10)]⟩]) <|
    .seq (.ops false [⟨none,[.mov (some 11) (.t 1),.mov (some 12) (.t 0),.mov (some 13) (.t 5),.iadr (some 14) 2 (.t 12) (.t 13),.load (some 15) false 2 true (.t 14),.vcall (some 16) 19 (.t 11) [(.t 15)]]⟩]) <|
    .cond (.t 16)
     (.seq (.ops false [⟨none,[.mov (some 17) (.t 5),.mov (some 4) (.t 17)]⟩]) <|
     .ret)
     (.skip)) <|
   .ops false [⟨none,[.bin (some 18) .add (.t 8) (.k (.int .i64 1)),.mov (some 8) (.t 18)]⟩]) <|
 .seq (.ops false [⟨none,[.mov (some 4) (.k (.int .i64 (-1)))]⟩]) <|
 .ret
def e260:C :=
 .seq (.ops false [⟨none,[.mov (some 4) (.k (.str [])),.mov (some 5) (.k (.bool false))]⟩]) <|
 .seq (.seq (.ops false [⟨none,[.mov (some 6) (.t 0),.mov (some 7) (.t 1),.call (some 8) true 278 [(.t 6),(.t 7)],.un (some 9) .not (.t 8)]⟩]) <|
 .cond (.t 9)
  (.seq (.ops false [⟨none,[.mov (some 10) (.t 0),.mov (some 4) (.t 10),.mov (some 5) (.k (.bool false))]⟩]) <|
  .ret)
  (.skip)) <|
 .seq (.ops false [⟨none,[.mov (some 11) (.t 0),.mov (some 12) (.t 1),.len (some 13) true (.t 12),.slcS (some 14) (.t 11) (some (.t 13)) none,.mov (some 4) (.t 14),.mov (some 5) (.k (.bool true))]⟩]) <|
 .ret
def e261:C :=
 .seq (.ops false [⟨none,[.box 2 165 (.t 0),.mov (some 3) (.k (.bool false))]⟩]) <|
 .seq (.ops false [⟨none,[.fadr (some 4) 0 (.t 2),.load (some 5) false 1 false (.t 4),.load (some 6) false 1 false (.t 1),.bin (some 7) .eql (.t 5) (.t 6),.mov (some 3) (.t 7)]⟩]) <|
 .ret
def e264:C :=
 .seq (.ops false [⟨none,[.mov (some 2) (.k (.str []))]⟩]) <|
 .seq (.ops false [⟨none,[.mov (some 3) (.k (.str []))]⟩]) <|
 .seq (.seq (.ops false [⟨none,[.mov (some 4) (.k (.int .i64 0))]⟩]) <|
 .block 0 <|
  .loop <|
   .seq (.seq (.ops false [⟨none,[.mov (some 6) (.t 4),.mov (some 7) (.t 0),.len (some 8) true (.t 7),.bin (some 9) .lss (.t 6) (.t 8)]⟩]) <|
   .cond (.t 9)
    (.skip)
    (.exit 0)) <|
   .seq (.block 1 <|
    .seq (.ops false [⟨none,[.mov (some 12) (.t 0),.mov (some 13) (.t 4),.mov (some 14) (.t 4),.bin (some 15) .add (.t 14) (.k (.int .i64 1)),.slcS (some 16) (.t 12) (some (.t 13)) (some (.t 15)),.mov (some 5) (.t 16)]⟩]) <|
    .seq (.seq (.ops false [⟨none,[.mov (some 17) (.t 5),.bin (some 18) .eql (.t 17) (.k (.str [95]))]⟩]) <|
    .cond (.t 18)
     (.ops false [⟨none,[.mov (some 5) (.k (.str [32]))]⟩])
     (.skip)) <|
    .seq (.seq (.ops false [⟨none,[.mov (some 19) (.t 5),.bin (some 20) .eql (.t 19) (.k (.str [32])),.mov (some 21) (.t 20)]⟩,
     ⟨some (21,true),[.mov (some 22) (.t 3),.bin (some 23) .eql (.t 22) (.k (.str [])),.mov (some 24) (.t 23)]⟩,
     ⟨some (24,false),[.mov (some 25) (.t 3),.mov (some 26) (.t 3),.len (some 27) true (.t 26),.bin (some 28) .sub (.t 27) (.k (.int .i64 1)),.idx (some 29) (.t 25) (.t 28),.bin (some 30) .eql (.t 29) (.k (.int .u8 32))]⟩,
     ⟨some (21,true),[.pick (some 31) (.t 24) (.k (.bool true)) (.t 30)]⟩,
     ⟨none,[.pick (some 32) (.t 21) (.t 31) (.k (.bool false))]⟩]) <|
    .cond (.t 32)
     (.exit 1)
     (.skip)) <|
    .ops false [⟨none,[.mov (some 33) (.t 3),.mov (some 34) (.t 5),.bin (some 35) .add (.t 33) (.t 34),.mov (some 3) (.t 35)]⟩]) <|
   .ops false [⟨none,[.mov (some 10) (.t 4),.bin (some 11) .add (.t 10) (.k (.int .i64 1)),.mov (some 4) (.t 11)]⟩]) <|
 .seq (.seq (.ops false [⟨none,[.mov (some 36) (.t 3),.len (some 37) true (.t 36),.bin (some 38) .gtr (.t 37) (.k (.int .i64 0)),.mov (some 39) (.t 38)]⟩,
  ⟨some (39,true),[.mov (some 40) (.t 3),.mov (some 41) (.t 3),.len (some 42) true (.t 41),.bin (some 43) .sub (.t 42) (.k (.int .i64 1)),.idx (some 44) (.t 40) (.t 43),.bin (some 45) .eql (.t 44) (.k (.int .u8 32))]⟩,
  ⟨none,[.pick (some 46) (.t 39) (.t 45) (.k (.bool false))]⟩]) <|
 .cond (.t 46)
  (.ops false [⟨none,[.mov (some 47) (.t 3),.mov (some 48) (.t 3),.len (some 49) true (.t 48),.bin (some 50) .sub (.t 49) (.k (.int .i64 1)),.slcS (some 51) (.t 47) none (some (.t 50)),.mov (some 3) (.t 51)]⟩])
  (.skip)) <|
 .seq (.ops false [⟨none,[.mov (some 52) (.t 3),.mov (some 2) (.t 52)]⟩]) <|
 .ret
def e278:C :=
 .seq (.ops false [⟨none,[.mov (some 4) (.k (.bool false))]⟩]) <|
 .seq (.ops false [⟨none,[.mov (some 5) (.t 0),.len (some 6) true (.t 5),.mov (some 7) (.t 1),.len (some 8) true (.t 7),.bin (some 9) .geq (.t 6) (.t 8),.mov (some 10) (.t 9)]⟩,
  ⟨some (10,true),[.mov (some 11) (.t 0),.mov (some 12) (.t 1),.len (some 13) true (.t 12),.slcS (some 14) (.t 11) none (some (.t 13)),.mov (some 15) (.t 1),.bin (some 16) .eql (.t 14) (.t 15)]⟩,
  ⟨none,[.pick (some 17) (.t 10) (.t 16) (.k (.bool false)),.mov (some 4) (.t 17)]⟩]) <|
 .ret
def tabL:List (Nat×Ent):=[(5,⟨153,[(6,none)],e5,false⟩),
 (6,⟨22,[(2,none)],e6,false⟩),
 (7,⟨28,[(2,(some (8,true)))],e7,false⟩),
 (8,⟨124,[(12,(some (4,true))),(13,none)],e8,false⟩),
 (9,⟨66,[(0,none)],e9,false⟩),
 (14,⟨15,[(4,none)],e14,false⟩),
 (15,⟨15,[(2,(some (8,true)))],e15,false⟩),
 (16,⟨83,[(4,(some (8,true))),(5,none)],e16,false⟩),
 (17,⟨114,[(6,(some (4,true))),(7,none)],e17,false⟩),
 (18,⟨19,[(4,(some (3,true))),(5,none)],e18,false⟩),
 (19,⟨16,[(2,(some (6,true)))],e19,false⟩),
 (20,⟨46,[(2,none)],e20,false⟩),
 (21,⟨53,[(4,none)],e21,false⟩),
 (22,⟨7,[(2,none)],e22,false⟩),
 (23,⟨13,[(4,(some (4,true)))],e23,false⟩),
 (24,⟨83,[(2,none)],e24,false⟩),
 (25,⟨9,[(2,none)],e25,false⟩),
 (26,⟨14,[(6,none)],e26,false⟩),
 (27,⟨103,[(8,(some (3,true))),(9,none)],e27,false⟩),
 (28,⟨23,[(4,(some (3,true))),(5,none)],e28,false⟩),
 (29,⟨16,[(2,(some (6,true)))],e29,false⟩),
 (30,⟨17,[(8,none)],e30,false⟩),
 (31,⟨29,[(2,(some (3,true)))],e31,false⟩),
 (41,⟨2,[(0,(some (2,true)))],e41,false⟩),
 (42,⟨31,[(2,none)],e42,false⟩),
 (43,⟨45,[(2,none)],e43,false⟩),
 (44,⟨84,[(6,(some (8,true))),(7,none)],e44,false⟩),
 (45,⟨43,[(2,none)],e45,false⟩),
 (46,⟨80,[(6,(some (8,true))),(7,none)],e46,false⟩),
 (47,⟨29,[(6,(some (8,true))),(7,none)],e47,false⟩),
 (48,⟨20,[(4,none)],e48,false⟩),
 (49,⟨42,[(4,none)],e49,false⟩),
 (50,⟨40,[(2,none)],e50,false⟩),
 (52,⟨38,[(2,none),(3,none),(4,none)],e52,false⟩),
 (53,⟨54,[(2,none)],e53,false⟩),
 (54,⟨65,[(8,none)],e54,false⟩),
 (55,⟨32,[(6,(some (6,true))),(7,none)],e55,false⟩),
 (57,⟨35,[(2,(some (3,true))),(3,none),(4,none)],e57,false⟩),
 (58,⟨8,[(2,(some (3,true)))],e58,false⟩),
 (59,⟨42,[(10,none)],e59,false⟩),
 (66,⟨28,[(2,none)],e66,false⟩),
 (67,⟨20,[(2,none)],e67,false⟩),
 (68,⟨104,[(2,none)],e68,false⟩),
 (69,⟨91,[(2,none)],e69,false⟩),
 (70,⟨98,[(2,none)],e70,false⟩),
 (71,⟨107,[(2,none)],e71,false⟩),
 (72,⟨81,[(2,none)],e72,false⟩),
 (73,⟨72,[(6,(some (8,true))),(7,none)],e73,false⟩),
 (79,⟨44,[(4,(some (8,true))),(5,none)],e79,false⟩),
 (80,⟨42,[(4,(some (8,true))),(5,none)],e80,false⟩),
 (81,⟨2,[(0,(some (2,true)))],e81,false⟩),
 (82,⟨45,[(2,(some (3,true))),(3,none),(4,none)],e82,false⟩),
 (83,⟨47,[(4,none)],e83,false⟩),
 (84,⟨9,[(4,none)],e84,false⟩),
 (85,⟨9,[(4,none)],e85,false⟩),
 (86,⟨28,[(5,none)],e86,true⟩),
 (87,⟨11,[],e87,false⟩),
 (94,⟨34,[(2,none)],e94,false⟩),
 (95,⟨28,[(4,none)],e95,false⟩),
 (102,⟨50,[(4,none)],e102,false⟩),
 (103,⟨68,[(2,none)],e103,false⟩),
 (104,⟨8,[(2,none)],e104,false⟩),
 (105,⟨39,[(6,none)],e105,false⟩),
 (121,⟨131,[(2,none)],e121,false⟩),
 (122,⟨80,[(4,none)],e122,false⟩),
 (123,⟨29,[(4,none)],e123,false⟩),
 (124,⟨9,[(2,none)],e124,false⟩),
 (125,⟨54,[(2,none)],e125,false⟩),
 (127,⟨9,[(2,none)],e127,false⟩),
 (129,⟨40,[(4,none)],e129,false⟩),
 (134,⟨32,[(2,none)],e134,false⟩),
 (135,⟨122,[(4,(some (3,true))),(5,none)],e135,false⟩),
 (136,⟨102,[(2,none)],e136,false⟩),
 (137,⟨19,[(4,none)],e137,false⟩),
 (138,⟨19,[(4,none)],e138,false⟩),
 (139,⟨134,[],e139,false⟩),
 (140,⟨8,[(2,none)],e140,false⟩),
 (147,⟨31,[(2,none)],e147,false⟩),
 (148,⟨28,[],e148,false⟩),
 (160,⟨19,[(2,none),(3,none)],e160,false⟩),
 (161,⟨28,[(4,none)],e161,false⟩),
 (162,⟨67,[(6,none)],e162,false⟩),
 (163,⟨55,[(6,none)],e163,false⟩),
 (164,⟨57,[(4,none)],e164,false⟩),
 (165,⟨52,[(4,none)],e165,false⟩),
 (166,⟨33,[(4,none)],e166,false⟩),
 (169,⟨28,[(6,none)],e169,false⟩),
 (174,⟨37,[(2,none)],e174,false⟩),
 (175,⟨40,[(2,none),(3,none)],e175,false⟩),
 (177,⟨42,[(2,none)],e177,false⟩),
 (178,⟨19,[(2,none)],e178,false⟩),
 (179,⟨30,[(2,(some (3,true))),(3,none)],e179,false⟩),
 (180,⟨30,[(4,none)],e180,false⟩),
 (181,⟨34,[(2,(some (2,true))),(3,none),(4,none)],e181,false⟩),
 (182,⟨58,[(4,none)],e182,false⟩),
 (183,⟨21,[(4,none)],e183,false⟩),
 (184,⟨34,[(2,none)],e184,false⟩),
 (185,⟨20,[(2,none)],e185,false⟩),
 (186,⟨49,[],e186,false⟩),
 (192,⟨17,[(4,none)],e192,false⟩),
 (196,⟨25,[(2,none)],e196,false⟩),
 (212,⟨2,[(0,none)],e212,false⟩),
 (214,⟨61,[(2,(some (2,true))),(3,none)],e214,false⟩),
 (215,⟨9,[(2,none)],e215,false⟩),
 (216,⟨9,[(4,none)],e216,false⟩),
 (218,⟨11,[(4,none),(5,none)],e218,false⟩),
 (219,⟨13,[(4,none)],e219,false⟩),
 (226,⟨107,[(2,(some (2,true))),(3,none)],e226,false⟩),
 (227,⟨9,[(2,none)],e227,false⟩),
 (233,⟨6,[(2,none)],e233,false⟩),
 (254,⟨41,[(2,none)],e254,false⟩),
 (256,⟨8,[(4,none)],e256,false⟩),
 (258,⟨38,[(2,none)],e258,false⟩),
 (259,⟨19,[(4,none)],e259,false⟩),
 (260,⟨15,[(4,none),(5,none)],e260,false⟩),
 (261,⟨8,[(3,none)],e261,true⟩),
 (264,⟨53,[(2,none)],e264,false⟩),
 (278,⟨18,[(4,none)],e278,false⟩)]
end Go.Ab
