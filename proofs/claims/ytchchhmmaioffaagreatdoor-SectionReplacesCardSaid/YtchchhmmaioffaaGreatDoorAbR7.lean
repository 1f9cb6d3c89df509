/- Several texts of one kind, merged. No condition. -/
import Derived.Test.YtchchhmmaioffaaGreatDoorAbR1
import Derived.Test.YtchchhmmaioffaaGreatDoorAbR3
/- Lowered code of the functions, by program. No condition. -/
namespace Go.Ab
set_option linter.unusedVariables false
def c39 (F T : Nat → Nat) : C :=
 .seq (.ops false [⟨none, [.mov (some 2) (.k .nilp)]⟩]) <|
 .seq (.ops false [⟨none, [.mov (some 3) (.t 0), .build (some 4) [.nils, (.int .i64 0)] [(0, 1, (.t 3))], .box 5 (T 10) (.t 4), .mov (some 2) (.t 5)]⟩]) <|
 .ret
abbrev Is39 (P : Program) (F T : Nat → Nat) : Prop := Fn P (F 39) 6 [(2, none)] (c39 F T)
def c46 (F T : Nat → Nat) : C :=
 .seq (.ops false [⟨none, [.mov (some 4) (.k (.int .i64 0))]⟩]) <|
 .seq (.seq (.ops true [⟨none, [.mov (some 6) (.t 0), .nchk (some 7) (.t 6), .fadr (some 8) 1 (.t 7), .load (some 9) false 1 false (.t 8), .mov (some 10) (.t 0), .nchk (some 11) (.t 10), .fadr (some 12) 0 (.t 11), .load (some 13) false 1 false (.t 12), .len (some 14) false (.t 13), .bin (some 15) .geq (.t 9) (.t 14)]⟩]) <|
 .cond (.t 15)
 (.seq (.ops false [⟨none, [.mov (some 4) (.k (.int .i64 0))]⟩]) <|
 .ret)
 (.skip)) <|
 .seq (.ops true [⟨none, [.mov (some 16) (.t 0), .nchk (some 17) (.t 16), .fadr (some 18) 0 (.t 17), .load (some 19) false 1 false (.t 18), .mov (some 20) (.t 0), .nchk (some 21) (.t 20), .fadr (some 22) 1 (.t 21), .load (some 23) false 1 false (.t 22), .iadr (some 24) 1 (.t 19) (.t 23), .load (some 25) false 1 false (.t 24), .bin (some 26) .and (.t 25) (.k (.int .i64 16777215)), .mov (some 5) (.t 26)]⟩]) <|
 .seq (.ops false [⟨none, [.mov (some 27) (.t 0), .nchk (some 28) (.t 27), .fadr (some 29) 1 (.t 28), .load (some 30) false 1 false (.t 29), .bin (some 31) .add (.t 30) (.k (.int .i64 1)), .nchk (some 32) (.t 27), .fadr (some 33) 1 (.t 32), .store 1 (.t 33) (.t 31)]⟩]) <|
 .seq (.ops false [⟨none, [.mov (some 34) (.t 5), .mov (some 35) (.t 1), .bin (some 36) .rem (.t 34) (.t 35), .mov (some 4) (.t 36)]⟩]) <|
 .ret
abbrev Is46 (P : Program) (F T : Nat → Nat) : Prop := Fn P (F 46) 37 [(4, none)] (c46 F T)
def c47 (F T : Nat → Nat) : C :=
 .seq (.ops false [⟨none, [.mov (some 4) (.k (.str []))]⟩]) <|
 .seq (.ops false [⟨none, [.mov (some 5) (.t 1), .mov (some 6) (.t 0), .mov (some 7) (.t 1), .len (some 8) false (.t 7), .ecall (some 9) 12 (F 46) [(.t 6), (.t 8)], .iadr (some 10) 1 (.t 5) (.t 9), .load (some 11) false 1 false (.t 10), .mov (some 4) (.t 11)]⟩]) <|
 .ret
abbrev Is47 (P : Program) (F T : Nat → Nat) : Prop := Fn P (F 47) 12 [(4, none)] (c47 F T)
end Go.Ab
/- Lowered code of the functions, by program. No condition. -/
namespace Go.Ab
set_option linter.unusedVariables false
def c40 (F T : Nat → Nat) : C :=
 .seq (.ops false [⟨none, [.mov (some 4) (.k (.str []))]⟩]) <|
 .seq (.ops false [⟨none, [.mov (some 9) (.t 0), .mkl (some 10) 1 [(.k (.str [])), (.k (.str [])), (.k (.str [])), (.k (.str [])), (.k (.str [35, 82, 69, 68, 73, 82, 69, 67, 84, 32, 91, 91, 66, 93, 93, 10])), (.k (.str [35, 82, 69, 68, 73, 82, 69, 67, 84, 32, 91, 91, 58, 84, 101, 109, 112, 108, 97, 116, 101, 58, 84, 93, 93, 32, 120]))], .ecall (some 11) 45 (F 47) [(.t 9), (.t 10)], .mov (some 5) (.t 11)]⟩]) <|
 .seq (.ops false [⟨none, [.mov (some 12) (.t 0), .ecall (some 13) 45 (F 46) [(.t 12), (.k (.int .i64 5))], .mov (some 6) (.t 13)]⟩]) <|
 .seq (.seq (.ops false [⟨none, [.mov (some 7) (.k (.int .i64 0))]⟩]) <|
 .block 0 <|
 .loop <|
 .seq (.seq (.ops false [⟨none, [.mov (some 14) (.t 7), .mov (some 15) (.t 6), .bin (some 16) .leq (.t 14) (.t 15)]⟩]) <|
 .cond (.t 16)
 (.skip)
 (.exit 0)) <|
 .seq (.block 1 <|
 .seqc (.seq (.ops false [⟨none, [.mov (some 19) (.t 7), .bin (some 20) .gtr (.t 19) (.k (.int .i64 0))]⟩]) <|
 .cond (.t 20)
 (.ops false [⟨none, [.mov (some 21) (.t 5), .bin (some 22) .add (.t 21) (.k (.str [10])), .mov (some 5) (.t 22)]⟩])
 (.skip)) <|
 .seqc (.seq (.ops false [⟨none, [.mov (some 23) (.t 0), .ecall (some 24) 45 (F 46) [(.t 23), (.k (.int .i64 4))], .bin (some 25) .eql (.t 24) (.k (.int .i64 0))]⟩]) <|
 .cond (.t 25)
 (.seq (.ops false [⟨none, [.mov (some 26) (.t 0), .mkl (some 27) 1 [(.k (.str [61])), (.k (.str [61, 61])), (.k (.str [61, 61])), (.k (.str [61, 61, 61]))], .ecall (some 28) 45 (F 47) [(.t 26), (.t 27)], .mov (some 8) (.t 28)]⟩]) <|
 .ops false [⟨none, [.mov (some 29) (.t 5), .mov (some 30) (.t 8), .bin (some 31) .add (.t 29) (.t 30), .mov (some 32) (.t 0), .mkl (some 33) 1 [(.k (.str [32, 115, 32])), (.k (.str [32, 116, 32])), (.k (.str [97, 32, 98])), (.k (.str [32, 115, 32]))], .ecall (some 34) 45 (F 47) [(.t 32), (.t 33)], .bin (some 35) .add (.t 31) (.t 34), .mov (some 36) (.t 8), .bin (some 37) .add (.t 35) (.t 36), .bin (some 38) .add (.t 37) (.k (.str [10])), .mov (some 5) (.t 38)]⟩])
 (.skip)) <|
 .ops false [⟨none, [.mov (some 39) (.t 5), .mov (some 40) (.t 0), .mov (some 41) (.t 1), .ecall (some 42) 45 (F 63) [(.t 40), (.t 41)], .bin (some 43) .add (.t 39) (.t 42), .mov (some 5) (.t 43)]⟩]) <|
 .ops false [⟨none, [.mov (some 17) (.t 7), .bin (some 18) .add (.t 17) (.k (.int .i64 1)), .mov (some 7) (.t 18)]⟩]) <|
 .seq (.ops false [⟨none, [.mov (some 44) (.t 5), .mov (some 4) (.t 44)]⟩]) <|
 .ret
abbrev Is40 (P : Program) (F T : Nat → Nat) : Prop := Fn P (F 40) 45 [(4, none)] (c40 F T)
def c63 (F T : Nat → Nat) : C :=
 .seq (.ops false [⟨none, [.mov (some 4) (.k (.str []))]⟩]) <|
 .seq (.ops false [⟨none, [.mov (some 7) (.t 0), .mkl (some 8) 1 [(.k (.str [])), (.k (.str [])), (.k (.str [])), (.k (.str [42, 32])), (.k (.str [42, 42, 32])), (.k (.str [35, 32])), (.k (.str [42, 35, 32])), (.k (.str [32])), (.k (.str [123, 124])), (.k (.str [124])), (.k (.str [124, 45])), (.k (.str [33])), (.k (.str [124, 125])), (.k (.str [45, 45, 45, 45]))], .ecall (some 9) 22 (F 47) [(.t 7), (.t 8)], .mov (some 5) (.t 9)]⟩]) <|
 .seq (.seq (.ops false [⟨none, [.mov (some 6) (.k (.int .i64 0))]⟩]) <|
 .block 0 <|
 .loop <|
 .seq (.seq (.ops false [⟨none, [.mov (some 10) (.t 6), .mov (some 11) (.t 0), .ecall (some 12) 22 (F 46) [(.t 11), (.k (.int .i64 3))], .bin (some 13) .leq (.t 10) (.t 12)]⟩]) <|
 .cond (.t 13)
 (.skip)
 (.exit 0)) <|
 .seq (.block 1 <|
 .ops false [⟨none, [.mov (some 16) (.t 5), .mov (some 17) (.t 0), .mov (some 18) (.t 1), .ecall (some 19) 22 (F 93) [(.t 17), (.t 18)], .bin (some 20) .add (.t 16) (.t 19), .mov (some 5) (.t 20)]⟩]) <|
 .ops false [⟨none, [.mov (some 14) (.t 6), .bin (some 15) .add (.t 14) (.k (.int .i64 1)), .mov (some 6) (.t 15)]⟩]) <|
 .seq (.ops false [⟨none, [.mov (some 21) (.t 5), .mov (some 4) (.t 21)]⟩]) <|
 .ret
abbrev Is63 (P : Program) (F T : Nat → Nat) : Prop := Fn P (F 63) 22 [(4, none)] (c63 F T)
def c93 (F T : Nat → Nat) : C :=
 .seq (.ops false [⟨none, [.mov (some 4) (.k (.str []))]⟩]) <|
 .seq (.seq (.ops false [⟨none, [.mov (some 6) (.t 1), .bin (some 7) .leq (.t 6) (.k (.int .i64 0))]⟩]) <|
 .cond (.t 7)
 (.seq (.ops false [⟨none, [.mov (some 8) (.t 0), .ecall (some 9) 238 (F 112) [(.t 8)], .mov (some 4) (.t 9)]⟩]) <|
 .ret)
 (.skip)) <|
 .seq (.ops false [⟨none, [.mov (some 10) (.t 1), .bin (some 11) .sub (.t 10) (.k (.int .i64 1)), .mov (some 5) (.t 11)]⟩]) <|
 .seq (.seq (.ops false [⟨none, [.mov (some 12) (.t 0), .ecall (some 13) 238 (F 46) [(.t 12), (.k (.int .i64 24))]]⟩]) <|
 .block 0 <|
 .seq (.ops false [⟨none, [.bin (some 15) .eql (.t 13) (.k (.int .i64 0)), .mov (some 14) (.t 15)]⟩]) <|
 .cond (.t 14)
 (.seq (.ops false [⟨none, [.mov (some 16) (.t 0), .mkl (some 17) 1 [(.k (.str [84])), (.k (.str [85, 47, 120])), (.k (.str [58, 65])), (.k (.str [58, 66])), (.k (.str [58, 67])), (.k (.str [47, 120])), (.k (.str [65])), (.k (.str [66])), (.k (.str [58, 84, 97, 108, 107, 58, 65])), (.k (.str [88]))], .ecall (some 18) 238 (F 47) [(.t 16), (.t 17)], .bin (some 19) .add (.k (.str [123, 123])) (.t 18), .bin (some 20) .add (.t 19) (.k (.str [124])), .mov (some 21) (.t 0), .mov (some 22) (.t 5), .ecall (some 23) 238 (F 93) [(.t 21), (.t 22)], .bin (some 24) .add (.t 20) (.t 23), .bin (some 25) .add (.t 24) (.k (.str [124])), .mov (some 26) (.t 0), .mkl (some 27) 1 [(.k (.str [107])), (.k (.str [49])), (.k (.str [110]))], .ecall (some 28) 238 (F 47) [(.t 26), (.t 27)], .bin (some 29) .add (.t 25) (.t 28), .bin (some 30) .add (.t 29) (.k (.str [61])), .mov (some 31) (.t 0), .mov (some 32) (.t 5), .ecall (some 33) 238 (F 93) [(.t 31), (.t 32)], .bin (some 34) .add (.t 30) (.t 33), .bin (some 35) .add (.t 34) (.k (.str [125, 125])), .mov (some 4) (.t 35)]⟩]) <|
 .ret)
 (.seq (.ops false [⟨none, [.bin (some 37) .eql (.t 13) (.k (.int .i64 1)), .mov (some 36) (.t 37)]⟩]) <|
 .cond (.t 36)
 (.seq (.ops false [⟨none, [.mov (some 38) (.t 0), .mkl (some 39) 1 [(.k (.str [84])), (.k (.str [65])), (.k (.str [66])), (.k (.str [58, 65])), (.k (.str [58, 65, 47, 66]))], .ecall (some 40) 238 (F 47) [(.t 38), (.t 39)], .bin (some 41) .add (.k (.str [123, 123])) (.t 40), .bin (some 42) .add (.t 41) (.k (.str [125, 125])), .mov (some 4) (.t 42)]⟩]) <|
 .ret)
 (.seq (.ops false [⟨none, [.bin (some 44) .eql (.t 13) (.k (.int .i64 2)), .mov (some 43) (.t 44)]⟩]) <|
 .cond (.t 43)
 (.seq (.ops false [⟨none, [.mov (some 45) (.t 0), .mkl (some 46) 1 [(.k (.str [49])), (.k (.str [107])), (.k (.str [110])), (.k (.str [105])), (.k (.str [120]))], .ecall (some 47) 238 (F 47) [(.t 45), (.t 46)], .bin (some 48) .add (.k (.str [123, 123, 123])) (.t 47), .mov (some 49) (.t 0), .mkl (some 50) 1 [(.k (.str [])), (.k (.str [124])), (.k (.str [124, 100]))], .ecall (some 51) 238 (F 47) [(.t 49), (.t 50)], .bin (some 52) .add (.t 48) (.t 51), .bin (some 53) .add (.t 52) (.k (.str [125, 125, 125])), .mov (some 4) (.t 53)]⟩]) <|
 .ret)
 (.seq (.ops false [⟨none, [.bin (some 55) .eql (.t 13) (.k (.int .i64 3)), .mov (some 54) (.t 55)]⟩]) <|
 .cond (.t 54)
 (.seq (.ops false [⟨none, [.mov (some 56) (.t 0), .mov (some 57) (.t 5), .ecall (some 58) 238 (F 93) [(.t 56), (.t 57)], .bin (some 59) .add (.k (.str [123, 123, 35, 105, 102, 58])) (.t 58), .bin (some 60) .add (.t 59) (.k (.str [124])), .mov (some 61) (.t 0), .mov (some 62) (.t 5), .ecall (some 63) 238 (F 93) [(.t 61), (.t 62)], .bin (some 64) .add (.t 60) (.t 63), .bin (some 65) .add (.t 64) (.k (.str [124])), .mov (some 66) (.t 0), .mov (some 67) (.t 5), .ecall (some 68) 238 (F 93) [(.t 66), (.t 67)], .bin (some 69) .add (.t 65) (.t 68), .bin (some 70) .add (.t 69) (.k (.str [125, 125])), .mov (some 4) (.t 70)]⟩]) <|
 .ret)
 (.seq (.ops false [⟨none, [.bin (some 72) .eql (.t 13) (.k (.int .i64 4)), .mov (some 71) (.t 72)]⟩]) <|
 .cond (.t 71)
 (.seq (.ops false [⟨none, [.mov (some 73) (.t 0), .mov (some 74) (.t 5), .ecall (some 75) 238 (F 93) [(.t 73), (.t 74)], .bin (some 76) .add (.k (.str [123, 123, 35, 105, 102, 101, 113, 58])) (.t 75), .bin (some 77) .add (.t 76) (.k (.str [124])), .mov (some 78) (.t 0), .mov (some 79) (.t 5), .ecall (some 80) 238 (F 93) [(.t 78), (.t 79)], .bin (some 81) .add (.t 77) (.t 80), .bin (some 82) .add (.t 81) (.k (.str [124, 121, 101, 115, 124])), .mov (some 83) (.t 0), .mov (some 84) (.t 5), .ecall (some 85) 238 (F 93) [(.t 83), (.t 84)], .bin (some 86) .add (.t 82) (.t 85), .bin (some 87) .add (.t 86) (.k (.str [125, 125])), .mov (some 4) (.t 87)]⟩]) <|
 .ret)
 (.seq (.ops false [⟨none, [.bin (some 89) .eql (.t 13) (.k (.int .i64 5)), .mov (some 88) (.t 89)]⟩]) <|
 .cond (.t 88)
 (.seq (.ops false [⟨none, [.mov (some 90) (.t 0), .ecall (some 91) 238 (F 112) [(.t 90)], .bin (some 92) .add (.k (.str [123, 123, 35, 115, 119, 105, 116, 99, 104, 58])) (.t 91), .bin (some 93) .add (.t 92) (.k (.str [124, 97, 61, 49, 124, 98, 124, 49, 50, 61])), .mov (some 94) (.t 0), .mov (some 95) (.t 5), .ecall (some 96) 238 (F 93) [(.t 94), (.t 95)], .bin (some 97) .add (.t 93) (.t 96), .bin (some 98) .add (.t 97) (.k (.str [124, 35, 100, 101, 102, 97, 117, 108, 116, 61, 100, 124])), .mov (some 99) (.t 0), .mkl (some 100) 1 [(.k (.str [122, 61, 50])), (.k (.str [108, 97, 115, 116]))], .ecall (some 101) 238 (F 47) [(.t 99), (.t 100)], .bin (some 102) .add (.t 98) (.t 101), .bin (some 103) .add (.t 102) (.k (.str [125, 125])), .mov (some 4) (.t 103)]⟩]) <|
 .ret)
 (.seq (.ops false [⟨none, [.bin (some 105) .eql (.t 13) (.k (.int .i64 6)), .mov (some 104) (.t 105)]⟩]) <|
 .cond (.t 104)
 (.seq (.ops false [⟨none, [.mov (some 106) (.t 0), .mkl (some 107) 1 [(.k (.str [65])), (.k (.str [66])), (.k (.str [84, 101, 109, 112, 108, 97, 116, 101, 58, 84])), (.k (.str [67])), (.k (.str [91])), (.k (.str [84, 97, 108, 107, 58, 65]))], .ecall (some 108) 238 (F 47) [(.t 106), (.t 107)], .bin (some 109) .add (.k (.str [123, 123, 35, 105, 102, 101, 120, 105, 115, 116, 58])) (.t 108), .bin (some 110) .add (.t 109) (.k (.str [124])), .mov (some 111) (.t 0), .mov (some 112) (.t 5), .ecall (some 113) 238 (F 93) [(.t 111), (.t 112)], .bin (some 114) .add (.t 110) (.t 113), .bin (some 115) .add (.t 114) (.k (.str [124, 110, 111, 125, 125])), .mov (some 4) (.t 115)]⟩]) <|
 .ret)
 (.seq (.ops false [⟨none, [.bin (some 117) .eql (.t 13) (.k (.int .i64 7)), .mov (some 116) (.t 117)]⟩]) <|
 .cond (.t 116)
 (.seq (.ops false [⟨none, [.mov (some 118) (.t 0), .mkl (some 119) 1 [(.k (.str [49, 44, 50, 44, 51])), (.k (.str [97, 44, 98])), (.k (.str [])), (.k (.str [120]))], .ecall (some 120) 238 (F 47) [(.t 118), (.t 119)], .bin (some 121) .add (.k (.str [123, 123, 35, 102, 111, 114, 58])) (.t 120), .bin (some 122) .add (.t 121) (.k (.str [124, 124, 105, 124])), .mov (some 123) (.t 0), .mov (some 124) (.t 5), .ecall (some 125) 238 (F 93) [(.t 123), (.t 124)], .bin (some 126) .add (.t 122) (.t 125), .bin (some 127) .add (.t 126) (.k (.str [123, 123, 123, 105, 125, 125, 125, 124, 44, 32, 125, 125])), .mov (some 4) (.t 127)]⟩]) <|
 .ret)
 (.seq (.ops false [⟨none, [.bin (some 129) .eql (.t 13) (.k (.int .i64 8)), .mov (some 128) (.t 129)]⟩]) <|
 .cond (.t 128)
 (.seq (.ops false [⟨none, [.mov (some 130) (.t 0), .mkl (some 131) 1 [(.k (.str [89])), (.k (.str [70, 32, 89])), (.k (.str [106, 46, 110, 46])), (.k (.str [72])), (.k (.str [72, 58, 105])), (.k (.str [78])), (.k (.str [92, 89]))], .ecall (some 132) 238 (F 47) [(.t 130), (.t 131)], .bin (some 133) .add (.k (.str [123, 123, 35, 100, 97, 116, 101, 58])) (.t 132), .bin (some 134) .add (.t 133) (.k (.str [125, 125])), .mov (some 4) (.t 134)]⟩]) <|
 .ret)
 (.seq (.ops false [⟨none, [.bin (some 136) .eql (.t 13) (.k (.int .i64 9)), .mov (some 135) (.t 136)]⟩]) <|
 .cond (.t 135)
 (.seq (.ops false [⟨none, [.mov (some 137) (.t 0), .mkl (some 138) 1 [(.k (.str [88])), (.k (.str [65])), (.k (.str [66]))], .ecall (some 139) 238 (F 47) [(.t 137), (.t 138)], .bin (some 140) .add (.k (.str [123, 123, 35, 99, 111, 117, 110, 116, 58])) (.t 139), .bin (some 141) .add (.t 140) (.k (.str [125, 125])), .mov (some 4) (.t 141)]⟩]) <|
 .ret)
 (.seq (.ops false [⟨none, [.bin (some 143) .eql (.t 13) (.k (.int .i64 10)), .mov (some 142) (.t 143)]⟩]) <|
 .cond (.t 142)
 (.seq (.ops false [⟨none, [.mov (some 144) (.t 0), .mkl (some 145) 1 [(.k (.str [88])), (.k (.str [65])), (.k (.str []))], .ecall (some 146) 238 (F 47) [(.t 144), (.t 145)], .bin (some 147) .add (.k (.str [123, 123, 35, 109, 101, 109, 98, 101, 114, 115, 58])) (.t 146), .bin (some 148) .add (.t 147) (.k (.str [125, 125])), .mov (some 4) (.t 148)]⟩]) <|
 .ret)
 (.seq (.ops false [⟨none, [.bin (some 150) .eql (.t 13) (.k (.int .i64 11)), .mov (some 149) (.t 150)]⟩]) <|
 .cond (.t 149)
 (.seq (.ops false [⟨none, [.mov (some 151) (.t 0), .mkl (some 152) 1 [(.k (.str [114, 101, 97, 100])), (.k (.str [101, 100, 105, 116])), (.k (.str [120]))], .ecall (some 153) 238 (F 47) [(.t 151), (.t 152)], .bin (some 154) .add (.k (.str [123, 123, 35, 114, 105, 103, 104, 116, 58])) (.t 153), .bin (some 155) .add (.t 154) (.k (.str [124])), .mov (some 156) (.t 0), .mkl (some 157) 1 [(.k (.str [65])), (.k (.str [66])), (.k (.str [84, 97, 108, 107, 58, 65]))], .ecall (some 158) 238 (F 47) [(.t 156), (.t 157)], .bin (some 159) .add (.t 155) (.t 158), .bin (some 160) .add (.t 159) (.k (.str [124, 109, 97, 121, 124, 109, 97, 121, 32, 110, 111, 116, 125, 125])), .mov (some 4) (.t 160)]⟩]) <|
 .ret)
 (.seq (.ops false [⟨none, [.bin (some 162) .eql (.t 13) (.k (.int .i64 12)), .mov (some 161) (.t 162)]⟩]) <|
 .cond (.t 161)
 (.seq (.ops false [⟨none, [.mov (some 163) (.t 0), .mkl (some 164) 1 [(.k (.str [65])), (.k (.str [66])), (.k (.str [67]))], .ecall (some 165) 238 (F 47) [(.t 163), (.t 164)], .bin (some 166) .add (.k (.str [123, 123, 35, 114, 101, 118, 105, 115, 105, 111, 110, 58])) (.t 165), .bin (some 167) .add (.t 166) (.k (.str [125, 125])), .mov (some 4) (.t 167)]⟩]) <|
 .ret)
 (.seq (.ops false [⟨none, [.bin (some 169) .eql (.t 13) (.k (.int .i64 13)), .mov (some 168) (.t 169)]⟩]) <|
 .cond (.t 168)
 (.seq (.ops false [⟨none, [.mov (some 170) (.t 0), .mov (some 171) (.t 0), .ecall (some 172) 238 (F 112) [(.t 171)], .bin (some 173) .add (.k (.str [117, 99, 58])) (.t 172), .mkl (some 174) 1 [(.k (.str [102, 111, 114, 109, 117, 108, 97, 58, 49, 43, 50, 42, 51])), (.k (.str [102, 111, 114, 109, 117, 108, 97, 58, 49, 47, 48])), (.k (.str [108, 101, 110, 58, 97, 98, 99])), (.t 173), (.k (.str [115, 117, 98, 58, 97, 98, 99, 100, 101, 102, 124, 49, 124, 50])), (.k (.str [110, 111, 110, 101, 58, 120])), (.k (.str [112, 97, 103, 101])), (.k (.str [110, 97, 109, 101])), (.k (.str [115, 112, 97, 99, 101])), (.k (.str [105, 102, 102, 111, 114, 109, 117, 108, 97, 58, 49, 62, 50, 124, 97, 124, 98]))], .ecall (some 175) 238 (F 47) [(.t 170), (.t 174)], .bin (some 176) .add (.k (.str [123, 123, 35])) (.t 175), .bin (some 177) .add (.t 176) (.k (.str [125, 125])), .mov (some 4) (.t 177)]⟩]) <|
 .ret)
 (.seq (.ops false [⟨none, [.bin (some 179) .eql (.t 13) (.k (.int .i64 14)), .mov (some 178) (.t 179)]⟩]) <|
 .cond (.t 178)
 (.seq (.ops false [⟨none, [.mov (some 180) (.t 0), .mkl (some 181) 1 [(.k (.str [65])), (.k (.str [66])), (.k (.str [84, 97, 108, 107, 58, 65])), (.k (.str [67, 124, 99])), (.k (.str [67, 97, 116, 101, 103, 111, 114, 121, 58, 88])), (.k (.str [67, 97, 116, 101, 103, 111, 114, 121, 58, 88, 124, 115])), (.k (.str [58, 67, 97, 116, 101, 103, 111, 114, 121, 58, 88])), (.k (.str [65, 35, 115])), (.k (.str [35, 115])), (.k (.str [91])), (.k (.str [67, 97, 116, 101, 103, 111, 114, 121, 58, 65]))], .ecall (some 182) 238 (F 47) [(.t 180), (.t 181)], .bin (some 183) .add (.k (.str [91, 91])) (.t 182), .bin (some 184) .add (.t 183) (.k (.str [93, 93])), .mov (some 4) (.t 184)]⟩]) <|
 .ret)
 (.seq (.ops false [⟨none, [.bin (some 186) .eql (.t 13) (.k (.int .i64 15)), .mov (some 185) (.t 186)]⟩]) <|
 .cond (.t 185)
 (.seq (.ops false [⟨none, [.mov (some 187) (.t 0), .mov (some 188) (.t 5), .ecall (some 189) 238 (F 93) [(.t 187), (.t 188)], .bin (some 190) .add (.k (.str [39, 39, 39])) (.t 189), .bin (some 191) .add (.t 190) (.k (.str [39, 39, 39])), .mov (some 4) (.t 191)]⟩]) <|
 .ret)
 (.seq (.ops false [⟨none, [.bin (some 193) .eql (.t 13) (.k (.int .i64 16)), .mov (some 192) (.t 193)]⟩]) <|
 .cond (.t 192)
 (.seq (.ops false [⟨none, [.mov (some 194) (.t 0), .mov (some 195) (.t 5), .ecall (some 196) 238 (F 93) [(.t 194), (.t 195)], .bin (some 197) .add (.k (.str [39, 39])) (.t 196), .bin (some 198) .add (.t 197) (.k (.str [39, 39])), .mov (some 4) (.t 198)]⟩]) <|
 .ret)
 (.seq (.ops false [⟨none, [.bin (some 200) .eql (.t 13) (.k (.int .i64 17)), .mov (some 199) (.t 200)]⟩]) <|
 .cond (.t 199)
 (.seq (.ops false [⟨none, [.mov (some 201) (.t 0), .mkl (some 202) 1 [(.k (.str [])), (.k (.str [32, 110, 97, 109, 101, 61, 110])), (.k (.str [32, 110, 97, 109, 101, 61, 109]))], .ecall (some 203) 238 (F 47) [(.t 201), (.t 202)], .bin (some 204) .add (.k (.str [60, 114, 101, 102])) (.t 203), .bin (some 205) .add (.t 204) (.k (.str [62])), .mov (some 206) (.t 0), .mov (some 207) (.t 5), .ecall (some 208) 238 (F 93) [(.t 206), (.t 207)], .bin (some 209) .add (.t 205) (.t 208), .bin (some 210) .add (.t 209) (.k (.str [60, 47, 114, 101, 102, 62])), .mov (some 4) (.t 210)]⟩]) <|
 .ret)
 (.seq (.ops false [⟨none, [.bin (some 212) .eql (.t 13) (.k (.int .i64 18)), .mov (some 211) (.t 212)]⟩]) <|
 .cond (.t 211)
 (.seq (.ops false [⟨none, [.mov (some 213) (.t 0), .mkl (some 214) 1 [(.k (.str [123, 123, 84, 125, 125])), (.k (.str [39, 39])), (.k (.str [91, 91, 65, 93, 93])), (.k (.str [97]))], .ecall (some 215) 238 (F 47) [(.t 213), (.t 214)], .bin (some 216) .add (.k (.str [60, 110, 111, 119, 105, 107, 105, 62])) (.t 215), .bin (some 217) .add (.t 216) (.k (.str [60, 47, 110, 111, 119, 105, 107, 105, 62])), .mov (some 4) (.t 217)]⟩]) <|
 .ret)
 (.seq (.ops false [⟨none, [.bin (some 219) .eql (.t 13) (.k (.int .i64 19)), .mov (some 218) (.t 219)]⟩]) <|
 .cond (.t 218)
 (.seq (.ops false [⟨none, [.mov (some 220) (.t 0), .mkl (some 221) 1 [(.k (.str [60, 110, 111, 105, 110, 99, 108, 117, 100, 101, 62])), (.k (.str [60, 105, 110, 99, 108, 117, 100, 101, 111, 110, 108, 121, 62])), (.k (.str [60, 111, 110, 108, 121, 105, 110, 99, 108, 117, 100, 101, 62]))], .ecall (some 222) 238 (F 47) [(.t 220), (.t 221)], .mov (some 223) (.t 0), .mov (some 224) (.t 5), .ecall (some 225) 238 (F 93) [(.t 223), (.t 224)], .bin (some 226) .add (.t 222) (.t 225), .mov (some 227) (.t 0), .mkl (some 228) 1 [(.k (.str [60, 47, 110, 111, 105, 110, 99, 108, 117, 100, 101, 62])), (.k (.str [60, 47, 105, 110, 99, 108, 117, 100, 101, 111, 110, 108, 121, 62])), (.k (.str [60, 47, 111, 110, 108, 121, 105, 110, 99, 108, 117, 100, 101, 62]))], .ecall (some 229) 238 (F 47) [(.t 227), (.t 228)], .bin (some 230) .add (.t 226) (.t 229), .mov (some 4) (.t 230)]⟩]) <|
 .ret)
 (.seq (.ops false [⟨none, [.bin (some 232) .eql (.t 13) (.k (.int .i64 20)), .mov (some 231) (.t 232)]⟩]) <|
 .cond (.t 231)
 (.seq (.ops false [⟨none, [.mov (some 233) (.t 0), .mkl (some 234) 1 [(.k (.str [60, 33, 45, 45, 99, 45, 45, 62])), (.k (.str [60, 114, 101, 102, 32, 110, 97, 109, 101, 61, 110, 47, 62])), (.k (.str [60, 98, 114, 62])), (.k (.str [38, 108, 116, 59])), (.k (.str [38, 35, 57, 49, 59])), (.k (.str [123, 123])), (.k (.str [125, 125])), (.k (.str [91, 91])), (.k (.str [93, 93])), (.k (.str [124])), (.k (.str [61]))], .ecall (some 235) 238 (F 47) [(.t 233), (.t 234)], .mov (some 4) (.t 235)]⟩]) <|
 .ret)
 (.skip)))))))))))))))))))))) <|
 .seq (.ops false [⟨none, [.mov (some 236) (.t 0), .ecall (some 237) 238 (F 112) [(.t 236)], .mov (some 4) (.t 237)]⟩]) <|
 .ret
abbrev Is93 (P : Program) (F T : Nat → Nat) : Prop := Fn P (F 93) 238 [(4, none)] (c93 F T)
def c112 (F T : Nat → Nat) : C :=
 .seq (.ops false [⟨none, [.mov (some 2) (.k (.str []))]⟩]) <|
 .seq (.ops false [⟨none, [.mov (some 3) (.t 0), .mkl (some 4) 1 [(.k (.str [97])), (.k (.str [120, 32, 121])), (.k (.str [49, 50])), (.k (.str [])), (.k (.str [98])), (.k (.str [48])), (.k (.str [45, 51])), (.k (.str [65, 98])), (.k (.str [32])), (.k (.str [122]))], .ecall (some 5) 6 (F 47) [(.t 3), (.t 4)], .mov (some 2) (.t 5)]⟩]) <|
 .ret
abbrev Is112 (P : Program) (F T : Nat → Nat) : Prop := Fn P (F 112) 6 [(2, none)] (c112 F T)
end Go.Ab
/- Made texts: the tape. No condition. -/
namespace Go.Ab
set_option linter.unusedVariables false
set_option linter.unusedSimpArgs false
variable {P : Program} {F T : Nat → Nat}
def TB (T : Nat → Nat) (L : Heap) (p : Nat) : Prop := ∃ (es : List V) (a : Nat), L p = some (.box (T 10) [.lst 1 es, .int .i64 a]) ∧ (∀ e, e ∈ es → ∃ m, e = .int .i64 m) ∧ a ≤ es.length ∧ es.length < 2 ^ 63
structure TD (T : Nat → Nat) (L : Heap) (nx p : Nat) (L' : Heap) (nx' : Nat) : Prop where
 tb : TB T L' p
 le : nx ≤ nx'
 fr : ∀ b, b < nx → b ≠ p → L' b = L b
theorem TD.trans {L L1 L2 : Heap} {nx n1 n2 p : Nat} (h : TD T L nx p L1 n1) (k : TD T L1 n1 p L2 n2) : TD T L nx p L2 n2 :=
 ⟨k.tb, Nat.le_trans h.le k.le, fun b hb hbp => (k.fr b (Nat.lt_of_lt_of_le hb h.le) hbp).trans (h.fr b hb hbp)⟩
theorem TD.up {L L' : Heap} {nx n' m p : Nat} (h : TD T L nx p L' n') (hm : n' ≤ m) : TD T L nx p L' m := ⟨h.tb, Nat.le_trans h.le hm, h.fr⟩
theorem TD.dn {L L' : Heap} {nx n' m p : Nat} (h : TD T L m p L' n') (hm : nx ≤ m) : TD T L nx p L' n' := ⟨h.tb, Nat.le_trans hm h.le, fun b hb => h.fr b (Nat.lt_of_lt_of_le hb hm)⟩
structure TC (P : Program) (F T : Nat → Nat) : Prop where
 h46 : Is46 P F T
 h47 : Is47 P F T
theorem n46 (K : TC P F T) {L : Heap} {nx p : Nat} (h : TB T L p) (hp : p < nx) (n : Nat) (hn : 1 ≤ n) (hn2 : n ≤ 100) :
 ECall P (F 46) [.ptr p 0, .int .i64 n] L nx (fun v L' nx' => ∃ r : Nat, v = .int .i64 r ∧ r < n ∧ TD T L nx p L' nx') := by
 obtain ⟨es, a, hL, hes, ha, hl⟩ := h
 refine ecallC [] K.h46 (by simp) ?_
 by_cases hlt : a < es.length
 ·have h1 : ¬ ((es.length : Nat) : Int) ≤ (a : Nat) := by omega
  obtain ⟨m, hm⟩ := hes (es[a]) (List.getElem_mem hlt)
  have hg : es.getD a .junk = .int .i64 m := by rw [← hm]; simp [List.getD, hlt]
  obtain ⟨k, hk, hv⟩ := and_small m 16777215 (by omega)
  have hv' : vbits .and .i64 m 16777215 = (k : Int) := hv
  have hu := fun (x : Option Blk) (M : Heap) => upd_same M p x
  have ht : ((k : Nat) : Int).tmod (n : Nat) = ((k % n : Nat) : Int) := by rw [Int.tmod_eq_emod_of_nonneg (by omega)]; simp
  have hn0 : ¬ ((n : Nat) : Int) = 0 := by omega
  simp only [c46, push_cast, seval, -Nat.reducePow, hL, h1, hg, hv', ht, hu, hn0]
  have hmod : k % n < n := Nat.mod_lt _ (by omega)
  refine ⟨hlt, ⟨by omega, by omega⟩, by omega, k % n, by simp, hmod, ⟨⟨es, a + 1, by rw [hu]; simp, hes, by omega, hl⟩, by omega, fun b hb hbp => upd_ne _ _ _ _ hbp⟩⟩
 ·have h1 : ((es.length : Nat) : Int) ≤ (a : Nat) := by omega
  simp only [c46, push_cast, seval, -Nat.reducePow, hL, h1]
  exact ⟨by omega, 0, by simp, by omega, ⟨⟨es, a, hL, hes, ha, hl⟩, by omega, fun b _ _ => rfl⟩⟩
def strsB (B : Nat) (vs : List V) : Bool := vs.all fun | .str q => decide (q.length ≤ B) | _ => false
theorem strsB_at {B : Nat} {vs : List V} (h : strsB B vs = true) {i : Nat} (hi : i < vs.length) : ∃ q, vs.getD i .junk = .str q ∧ q.length ≤ B := by
 have := List.all_eq_true.1 h vs[i] (List.getElem_mem hi)
 have e : vs.getD i .junk = vs[i] := by simp [List.getD, hi]
 rw [e]
 revert this
 cases vs[i] with
 | str q => intro h; exact ⟨q, rfl, by simpa using h⟩
 | _ => intro h; simp at h
def TS (T : Nat → Nat) (L : Heap) (nx p B : Nat) (v : V) (L' : Heap) (nx' : Nat) : Prop := ∃ q, v = .str q ∧ q.length ≤ B ∧ TD T L nx p L' nx'
theorem n47 (K : TC P F T) {L : Heap} {nx p : Nat} (h : TB T L p) (hp : p < nx) (B : Nat) (vs : List V) (h1 : strsB B vs = true) (h2 : 1 ≤ vs.length) (h3 : vs.length ≤ 100) (hi : V.imms vs = true) :
 ECall P (F 47) [.ptr p 0, .lst 1 vs] L nx (TS T L nx p B) := by
 refine ecallC [] K.h47 (by simp) ?_
 simp only [c47, push_cast, seval, -Nat.reducePow]
 refine ecallK_intro (n46 K h (nx := nx + 24) (by omega) vs.length h2 h3) ?_
 rintro v L1 n1 ⟨r, rfl, hr, hT⟩
 obtain ⟨q, hq, hb⟩ := strsB_at h1 hr
 have z := hT.dn (nx := nx) (by omega)
 simp only [push_cast, seval, -Nat.reducePow, hq]
 exact ⟨hr, by have := z.le; omega, q, rfl, hb, z.up (by omega)⟩
theorem n39 (hf : Is39 P F T) {L : Heap} {nx : Nat} (es : List V) (hi : V.imms es = true) (hes : ∀ e, e ∈ es → ∃ m, e = .int .i64 m) (hl : es.length < 2 ^ 63) :
 ECall P (F 39) [.lst 1 es] L nx (fun v L' nx' => ∃ p, v = .ptr p 0 ∧ p < nx' ∧ nx ≤ nx' ∧ TB T L' p) := by
 refine ecallC [] hf (by simp) ?_
 simp only [c39, push_cast, seval, -Nat.reducePow]
 exact ⟨by omega, nx + 11, rfl, by omega, by omega, es, 0, upd_same _ _ _, hes, Nat.zero_le _, hl⟩
theorem arg_ints {P : Program} {t te : TypeId} {x : V} (hu : P.underlying t = some (.slice te)) (he : P.underlying te = some (.int .i64)) (hc : P.cellsOf te = 1) (h : ArgT P t x) : ∃ es, x = .lst 1 es ∧ ∀ e, e ∈ es → ∃ m, e = .int .i64 m := by
 obtain ⟨n, hn⟩ := arg_one (by simp [isAg, hu]) h
 cases n with
 | zero => exact (vt_zero hn).elim
 | succ n =>
   simp only [VT, hu, hc] at hn
   obtain ⟨es, h1, h2⟩ := hn
   simp only [List.cons.injEq, and_true] at h1
   refine ⟨es, h1, fun e hx => ?_⟩
   obtain ⟨ys, h3, h4, h5⟩ := h2 e hx
   have ha : isAg P te = false := by simp [isAg, he]
   cases n with
   | zero => exact (vt_zero h5).elim
   | succ n =>
     simp only [VT, he] at h5
     obtain ⟨m, h6, -⟩ := h5
     subst h6
     exact ⟨m, by rw [h3, ha]; rfl⟩
end Go.Ab
/- Made texts: a piece (by program: tools/gen93.py). No condition. -/
namespace Go.Ab
set_option linter.unusedVariables false
set_option linter.unusedSimpArgs false
variable {P : Program} {F T : Nat → Nat}
def pieceB : Nat → Nat
 | 0 => 100
 | d + 1 => 3 * pieceB d + 400
theorem pieceB_le {d : Nat} (h : d ≤ 8) : pieceB d ≤ 4000000 := by
 have : d = 0 ∨ d = 1 ∨ d = 2 ∨ d = 3 ∨ d = 4 ∨ d = 5 ∨ d = 6 ∨ d = 7 ∨ d = 8 := by omega
 rcases this with rfl | rfl | rfl | rfl | rfl | rfl | rfl | rfl | rfl <;> decide
structure TC2 (P : Program) (F T : Nat → Nat) : Prop extends TC P F T where
 h40 : Is40 P F T
 h63 : Is63 P F T
 h93 : Is93 P F T
 h112 : Is112 P F T
theorem n112 (K : TC2 P F T) {L : Heap} {nx p : Nat} (h : TB T L p) (hp : p < nx) : ECall P (F 112) [.ptr p 0] L nx (TS T L nx p 40) := by
 refine ecallC [] K.h112 (by simp) ?_
 simp only [c112, push_cast, seval, -Nat.reducePow]
 refine ecallK_intro (n47 K.toTC h (nx := nx + 12) (by omega) 40 _ (by rfl) (by decide) (by decide) (by rfl)) ?_
 rintro v L1 n1 ⟨q, rfl, hq, hT⟩
 have z := hT.dn (nx := nx) (by omega)
 exact ⟨by have := z.le; omega, q, rfl, hq, z.up (by omega)⟩
theorem n93 (K : TC2 P F T) : ∀ (d : Nat), d ≤ 8 → ∀ {L : Heap} {nx p : Nat}, TB T L p → p < nx → ECall P (F 93) [.ptr p 0, .int .i64 d] L nx (TS T L nx p (pieceB d)) := by
 intro d
 induction d with
 | zero =>
   intro _ L nx p h hp
   refine ecallC [] K.h93 (by simp) ?_
   simp only [c93, push_cast, seval, -Nat.reducePow]
   refine ecallK_intro (n112 K h (by omega)) ?_
   rintro v L1 n1 ⟨q, rfl, hq, hT⟩
   have z := hT.dn (nx := nx) (by omega)
   exact ⟨by have := z.le; omega, q, rfl, by simp only [pieceB]; omega, z.up (by omega)⟩
 | succ d ih =>
   intro hd L nx p h hp
   have ih := @ih (by omega)
   have hB : pieceB d ≤ 4000000 := pieceB_le (by omega)
   have h0 : ¬ ((d : Nat) : Int) + 1 ≤ 0 := by omega
   have e1 : ((d : Nat) : Int) + 1 - 1 = (d : Nat) := by omega
   refine ecallC [] K.h93 (by simp) ?_
   simp only [c93, push_cast, seval, -Nat.reducePow, h0, e1]
   refine ⟨by omega, ?_⟩
   refine ecallK_intro (n46 K.toTC h (by omega) 24 (by omega) (by omega)) ?_
   rintro v L0 n0 ⟨r, rfl, hr, hT⟩
   have z0 := hT.dn (nx := nx) (by omega)
   have hr24 : r = 0 ∨ r = 1 ∨ r = 2 ∨ r = 3 ∨ r = 4 ∨ r = 5 ∨ r = 6 ∨ r = 7 ∨ r = 8 ∨ r = 9 ∨ r = 10 ∨ r = 11 ∨ r = 12 ∨ r = 13 ∨ r = 14 ∨ r = 15 ∨ r = 16 ∨ r = 17 ∨ r = 18 ∨ r = 19 ∨ r = 20 ∨ r = 21 ∨ r = 22 ∨ r = 23 := by omega
   rcases hr24 with rfl | rfl | rfl | rfl | rfl | rfl | rfl | rfl | rfl | rfl | rfl | rfl | rfl | rfl | rfl | rfl | rfl | rfl | rfl | rfl | rfl | rfl | rfl | rfl
   ·simp only [push_cast, seval, -Nat.reducePow, e1]
    refine ecallK_intro (n47 K.toTC z0.tb (by have := z0.le; omega) 100 _ (by simp [strsB]) (by simp) (by simp) (by simp [V.imms, V.imm])) ?_
    rintro v1 L1 n1 ⟨q1, rfl, hq1, hT1⟩
    have z1 := z0.trans (hT1.dn (by omega))
    try simp only [push_cast, seval, -Nat.reducePow, e1]
    repeat (refine And.intro (by first | omega | (simp only [List.length_append, List.length_cons, List.length_nil]; omega)) ?_)
    refine ecallK_intro (ih z1.tb (by have := z1.le; omega)) ?_
    rintro v2 L2 n2 ⟨q2, rfl, hq2, hT2⟩
    have z2 := z1.trans (hT2.dn (by omega))
    try simp only [push_cast, seval, -Nat.reducePow, e1]
    repeat (refine And.intro (by first | omega | (simp only [List.length_append, List.length_cons, List.length_nil]; omega)) ?_)
    refine ecallK_intro (n47 K.toTC z2.tb (by have := z2.le; omega) 100 _ (by simp [strsB]) (by simp) (by simp) (by simp [V.imms, V.imm])) ?_
    rintro v3 L3 n3 ⟨q3, rfl, hq3, hT3⟩
    have z3 := z2.trans (hT3.dn (by omega))
    try simp only [push_cast, seval, -Nat.reducePow, e1]
    repeat (refine And.intro (by first | omega | (simp only [List.length_append, List.length_cons, List.length_nil]; omega)) ?_)
    refine ecallK_intro (ih z3.tb (by have := z3.le; omega)) ?_
    rintro v4 L4 n4 ⟨q4, rfl, hq4, hT4⟩
    have z4 := z3.trans (hT4.dn (by omega))
    try simp only [push_cast, seval, -Nat.reducePow, e1]
    repeat (refine And.intro (by first | omega | (simp only [List.length_append, List.length_cons, List.length_nil]; omega)) ?_)
    exact ⟨by have := z4.le; omega, _, rfl, by simp only [pieceB, List.length_append, List.length_cons, List.length_nil]; omega, z4.up (by omega)⟩
   ·simp only [push_cast, seval, -Nat.reducePow, e1]
    refine ecallK_intro (n47 K.toTC z0.tb (by have := z0.le; omega) 100 _ (by simp [strsB]) (by simp) (by simp) (by simp [V.imms, V.imm])) ?_
    rintro v1 L1 n1 ⟨q1, rfl, hq1, hT1⟩
    have z1 := z0.trans (hT1.dn (by omega))
    try simp only [push_cast, seval, -Nat.reducePow, e1]
    repeat (refine And.intro (by first | omega | (simp only [List.length_append, List.length_cons, List.length_nil]; omega)) ?_)
    exact ⟨by have := z1.le; omega, _, rfl, by simp only [pieceB, List.length_append, List.length_cons, List.length_nil]; omega, z1.up (by omega)⟩
   ·simp only [push_cast, seval, -Nat.reducePow, e1]
    refine ecallK_intro (n47 K.toTC z0.tb (by have := z0.le; omega) 100 _ (by simp [strsB]) (by simp) (by simp) (by simp [V.imms, V.imm])) ?_
    rintro v1 L1 n1 ⟨q1, rfl, hq1, hT1⟩
    have z1 := z0.trans (hT1.dn (by omega))
    try simp only [push_cast, seval, -Nat.reducePow, e1]
    repeat (refine And.intro (by first | omega | (simp only [List.length_append, List.length_cons, List.length_nil]; omega)) ?_)
    refine ecallK_intro (n47 K.toTC z1.tb (by have := z1.le; omega) 100 _ (by simp [strsB]) (by simp) (by simp) (by simp [V.imms, V.imm])) ?_
    rintro v2 L2 n2 ⟨q2, rfl, hq2, hT2⟩
    have z2 := z1.trans (hT2.dn (by omega))
    try simp only [push_cast, seval, -Nat.reducePow, e1]
    repeat (refine And.intro (by first | omega | (simp only [List.length_append, List.length_cons, List.length_nil]; omega)) ?_)
    exact ⟨by have := z2.le; omega, _, rfl, by simp only [pieceB, List.length_append, List.length_cons, List.length_nil]; omega, z2.up (by omega)⟩
   ·simp only [push_cast, seval, -Nat.reducePow, e1]
    refine ecallK_intro (ih z0.tb (by have := z0.le; omega)) ?_
    rintro v1 L1 n1 ⟨q1, rfl, hq1, hT1⟩
    have z1 := z0.trans (hT1.dn (by omega))
    try simp only [push_cast, seval, -Nat.reducePow, e1]
    repeat (refine And.intro (by first | omega | (simp only [List.length_append, List.length_cons, List.length_nil]; omega)) ?_)
    refine ecallK_intro (ih z1.tb (by have := z1.le; omega)) ?_
    rintro v2 L2 n2 ⟨q2, rfl, hq2, hT2⟩
    have z2 := z1.trans (hT2.dn (by omega))
    try simp only [push_cast, seval, -Nat.reducePow, e1]
    repeat (refine And.intro (by first | omega | (simp only [List.length_append, List.length_cons, List.length_nil]; omega)) ?_)
    refine ecallK_intro (ih z2.tb (by have := z2.le; omega)) ?_
    rintro v3 L3 n3 ⟨q3, rfl, hq3, hT3⟩
    have z3 := z2.trans (hT3.dn (by omega))
    try simp only [push_cast, seval, -Nat.reducePow, e1]
    repeat (refine And.intro (by first | omega | (simp only [List.length_append, List.length_cons, List.length_nil]; omega)) ?_)
    exact ⟨by have := z3.le; omega, _, rfl, by simp only [pieceB, List.length_append, List.length_cons, List.length_nil]; omega, z3.up (by omega)⟩
   ·simp only [push_cast, seval, -Nat.reducePow, e1]
    refine ecallK_intro (ih z0.tb (by have := z0.le; omega)) ?_
    rintro v1 L1 n1 ⟨q1, rfl, hq1, hT1⟩
    have z1 := z0.trans (hT1.dn (by omega))
    try simp only [push_cast, seval, -Nat.reducePow, e1]
    repeat (refine And.intro (by first | omega | (simp only [List.length_append, List.length_cons, List.length_nil]; omega)) ?_)
    refine ecallK_intro (ih z1.tb (by have := z1.le; omega)) ?_
    rintro v2 L2 n2 ⟨q2, rfl, hq2, hT2⟩
    have z2 := z1.trans (hT2.dn (by omega))
    try simp only [push_cast, seval, -Nat.reducePow, e1]
    repeat (refine And.intro (by first | omega | (simp only [List.length_append, List.length_cons, List.length_nil]; omega)) ?_)
    refine ecallK_intro (ih z2.tb (by have := z2.le; omega)) ?_
    rintro v3 L3 n3 ⟨q3, rfl, hq3, hT3⟩
    have z3 := z2.trans (hT3.dn (by omega))
    try simp only [push_cast, seval, -Nat.reducePow, e1]
    repeat (refine And.intro (by first | omega | (simp only [List.length_append, List.length_cons, List.length_nil]; omega)) ?_)
    exact ⟨by have := z3.le; omega, _, rfl, by simp only [pieceB, List.length_append, List.length_cons, List.length_nil]; omega, z3.up (by omega)⟩
   ·simp only [push_cast, seval, -Nat.reducePow, e1]
    refine ecallK_intro (n112 K z0.tb (by have := z0.le; omega)) ?_
    rintro v1 L1 n1 ⟨q1, rfl, hq1, hT1⟩
    have z1 := z0.trans (hT1.dn (by omega))
    try simp only [push_cast, seval, -Nat.reducePow, e1]
    repeat (refine And.intro (by first | omega | (simp only [List.length_append, List.length_cons, List.length_nil]; omega)) ?_)
    refine ecallK_intro (ih z1.tb (by have := z1.le; omega)) ?_
    rintro v2 L2 n2 ⟨q2, rfl, hq2, hT2⟩
    have z2 := z1.trans (hT2.dn (by omega))
    try simp only [push_cast, seval, -Nat.reducePow, e1]
    repeat (refine And.intro (by first | omega | (simp only [List.length_append, List.length_cons, List.length_nil]; omega)) ?_)
    refine ecallK_intro (n47 K.toTC z2.tb (by have := z2.le; omega) 100 _ (by simp [strsB]) (by simp) (by simp) (by simp [V.imms, V.imm])) ?_
    rintro v3 L3 n3 ⟨q3, rfl, hq3, hT3⟩
    have z3 := z2.trans (hT3.dn (by omega))
    try simp only [push_cast, seval, -Nat.reducePow, e1]
    repeat (refine And.intro (by first | omega | (simp only [List.length_append, List.length_cons, List.length_nil]; omega)) ?_)
    exact ⟨by have := z3.le; omega, _, rfl, by simp only [pieceB, List.length_append, List.length_cons, List.length_nil]; omega, z3.up (by omega)⟩
   ·simp only [push_cast, seval, -Nat.reducePow, e1]
    refine ecallK_intro (n47 K.toTC z0.tb (by have := z0.le; omega) 100 _ (by simp [strsB]) (by simp) (by simp) (by simp [V.imms, V.imm])) ?_
    rintro v1 L1 n1 ⟨q1, rfl, hq1, hT1⟩
    have z1 := z0.trans (hT1.dn (by omega))
    try simp only [push_cast, seval, -Nat.reducePow, e1]
    repeat (refine And.intro (by first | omega | (simp only [List.length_append, List.length_cons, List.length_nil]; omega)) ?_)
    refine ecallK_intro (ih z1.tb (by have := z1.le; omega)) ?_
    rintro v2 L2 n2 ⟨q2, rfl, hq2, hT2⟩
    have z2 := z1.trans (hT2.dn (by omega))
    try simp only [push_cast, seval, -Nat.reducePow, e1]
    repeat (refine And.intro (by first | omega | (simp only [List.length_append, List.length_cons, List.length_nil]; omega)) ?_)
    exact ⟨by have := z2.le; omega, _, rfl, by simp only [pieceB, List.length_append, List.length_cons, List.length_nil]; omega, z2.up (by omega)⟩
   ·simp only [push_cast, seval, -Nat.reducePow, e1]
    refine ecallK_intro (n47 K.toTC z0.tb (by have := z0.le; omega) 100 _ (by simp [strsB]) (by simp) (by simp) (by simp [V.imms, V.imm])) ?_
    rintro v1 L1 n1 ⟨q1, rfl, hq1, hT1⟩
    have z1 := z0.trans (hT1.dn (by omega))
    try simp only [push_cast, seval, -Nat.reducePow, e1]
    repeat (refine And.intro (by first | omega | (simp only [List.length_append, List.length_cons, List.length_nil]; omega)) ?_)
    refine ecallK_intro (ih z1.tb (by have := z1.le; omega)) ?_
    rintro v2 L2 n2 ⟨q2, rfl, hq2, hT2⟩
    have z2 := z1.trans (hT2.dn (by omega))
    try simp only [push_cast, seval, -Nat.reducePow, e1]
    repeat (refine And.intro (by first | omega | (simp only [List.length_append, List.length_cons, List.length_nil]; omega)) ?_)
    exact ⟨by have := z2.le; omega, _, rfl, by simp only [pieceB, List.length_append, List.length_cons, List.length_nil]; omega, z2.up (by omega)⟩
   ·simp only [push_cast, seval, -Nat.reducePow, e1]
    refine ecallK_intro (n47 K.toTC z0.tb (by have := z0.le; omega) 100 _ (by simp [strsB]) (by simp) (by simp) (by simp [V.imms, V.imm])) ?_
    rintro v1 L1 n1 ⟨q1, rfl, hq1, hT1⟩
    have z1 := z0.trans (hT1.dn (by omega))
    try simp only [push_cast, seval, -Nat.reducePow, e1]
    repeat (refine And.intro (by first | omega | (simp only [List.length_append, List.length_cons, List.length_nil]; omega)) ?_)
    exact ⟨by have := z1.le; omega, _, rfl, by simp only [pieceB, List.length_append, List.length_cons, List.length_nil]; omega, z1.up (by omega)⟩
   ·simp only [push_cast, seval, -Nat.reducePow, e1]
    refine ecallK_intro (n47 K.toTC z0.tb (by have := z0.le; omega) 100 _ (by simp [strsB]) (by simp) (by simp) (by simp [V.imms, V.imm])) ?_
    rintro v1 L1 n1 ⟨q1, rfl, hq1, hT1⟩
    have z1 := z0.trans (hT1.dn (by omega))
    try simp only [push_cast, seval, -Nat.reducePow, e1]
    repeat (refine And.intro (by first | omega | (simp only [List.length_append, List.length_cons, List.length_nil]; omega)) ?_)
    exact ⟨by have := z1.le; omega, _, rfl, by simp only [pieceB, List.length_append, List.length_cons, List.length_nil]; omega, z1.up (by omega)⟩
   ·simp only [push_cast, seval, -Nat.reducePow, e1]
    refine ecallK_intro (n47 K.toTC z0.tb (by have := z0.le; omega) 100 _ (by simp [strsB]) (by simp) (by simp) (by simp [V.imms, V.imm])) ?_
    rintro v1 L1 n1 ⟨q1, rfl, hq1, hT1⟩
    have z1 := z0.trans (hT1.dn (by omega))
    try simp only [push_cast, seval, -Nat.reducePow, e1]
    repeat (refine And.intro (by first | omega | (simp only [List.length_append, List.length_cons, List.length_nil]; omega)) ?_)
    exact ⟨by have := z1.le; omega, _, rfl, by simp only [pieceB, List.length_append, List.length_cons, List.length_nil]; omega, z1.up (by omega)⟩
   ·simp only [push_cast, seval, -Nat.reducePow, e1]
    refine ecallK_intro (n47 K.toTC z0.tb (by have := z0.le; omega) 100 _ (by simp [strsB]) (by simp) (by simp) (by simp [V.imms, V.imm])) ?_
    rintro v1 L1 n1 ⟨q1, rfl, hq1, hT1⟩
    have z1 := z0.trans (hT1.dn (by omega))
    try simp only [push_cast, seval, -Nat.reducePow, e1]
    repeat (refine And.intro (by first | omega | (simp only [List.length_append, List.length_cons, List.length_nil]; omega)) ?_)
    refine ecallK_intro (n47 K.toTC z1.tb (by have := z1.le; omega) 100 _ (by simp [strsB]) (by simp) (by simp) (by simp [V.imms, V.imm])) ?_
    rintro v2 L2 n2 ⟨q2, rfl, hq2, hT2⟩
    have z2 := z1.trans (hT2.dn (by omega))
    try simp only [push_cast, seval, -Nat.reducePow, e1]
    repeat (refine And.intro (by first | omega | (simp only [List.length_append, List.length_cons, List.length_nil]; omega)) ?_)
    exact ⟨by have := z2.le; omega, _, rfl, by simp only [pieceB, List.length_append, List.length_cons, List.length_nil]; omega, z2.up (by omega)⟩
   ·simp only [push_cast, seval, -Nat.reducePow, e1]
    refine ecallK_intro (n47 K.toTC z0.tb (by have := z0.le; omega) 100 _ (by simp [strsB]) (by simp) (by simp) (by simp [V.imms, V.imm])) ?_
    rintro v1 L1 n1 ⟨q1, rfl, hq1, hT1⟩
    have z1 := z0.trans (hT1.dn (by omega))
    try simp only [push_cast, seval, -Nat.reducePow, e1]
    repeat (refine And.intro (by first | omega | (simp only [List.length_append, List.length_cons, List.length_nil]; omega)) ?_)
    exact ⟨by have := z1.le; omega, _, rfl, by simp only [pieceB, List.length_append, List.length_cons, List.length_nil]; omega, z1.up (by omega)⟩
   ·simp only [push_cast, seval, -Nat.reducePow, e1]
    refine ecallK_intro (n112 K z0.tb (by have := z0.le; omega)) ?_
    rintro v1 L1 n1 ⟨q1, rfl, hq1, hT1⟩
    have z1 := z0.trans (hT1.dn (by omega))
    try simp only [push_cast, seval, -Nat.reducePow, e1]
    repeat (refine And.intro (by first | omega | (simp only [List.length_append, List.length_cons, List.length_nil]; omega)) ?_)
    refine ecallK_intro (n47 K.toTC z1.tb (by have := z1.le; omega) 100 _ (by simp [strsB]; omega) (by simp) (by simp) (by simp [V.imms, V.imm])) ?_
    rintro v2 L2 n2 ⟨q2, rfl, hq2, hT2⟩
    have z2 := z1.trans (hT2.dn (by omega))
    try simp only [push_cast, seval, -Nat.reducePow, e1]
    repeat (refine And.intro (by first | omega | (simp only [List.length_append, List.length_cons, List.length_nil]; omega)) ?_)
    exact ⟨by have := z2.le; omega, _, rfl, by simp only [pieceB, List.length_append, List.length_cons, List.length_nil]; omega, z2.up (by omega)⟩
   ·simp only [push_cast, seval, -Nat.reducePow, e1]
    refine ecallK_intro (n47 K.toTC z0.tb (by have := z0.le; omega) 100 _ (by simp [strsB]) (by simp) (by simp) (by simp [V.imms, V.imm])) ?_
    rintro v1 L1 n1 ⟨q1, rfl, hq1, hT1⟩
    have z1 := z0.trans (hT1.dn (by omega))
    try simp only [push_cast, seval, -Nat.reducePow, e1]
    repeat (refine And.intro (by first | omega | (simp only [List.length_append, List.length_cons, List.length_nil]; omega)) ?_)
    exact ⟨by have := z1.le; omega, _, rfl, by simp only [pieceB, List.length_append, List.length_cons, List.length_nil]; omega, z1.up (by omega)⟩
   ·simp only [push_cast, seval, -Nat.reducePow, e1]
    refine ecallK_intro (ih z0.tb (by have := z0.le; omega)) ?_
    rintro v1 L1 n1 ⟨q1, rfl, hq1, hT1⟩
    have z1 := z0.trans (hT1.dn (by omega))
    try simp only [push_cast, seval, -Nat.reducePow, e1]
    repeat (refine And.intro (by first | omega | (simp only [List.length_append, List.length_cons, List.length_nil]; omega)) ?_)
    exact ⟨by have := z1.le; omega, _, rfl, by simp only [pieceB, List.length_append, List.length_cons, List.length_nil]; omega, z1.up (by omega)⟩
   ·simp only [push_cast, seval, -Nat.reducePow, e1]
    refine ecallK_intro (ih z0.tb (by have := z0.le; omega)) ?_
    rintro v1 L1 n1 ⟨q1, rfl, hq1, hT1⟩
    have z1 := z0.trans (hT1.dn (by omega))
    try simp only [push_cast, seval, -Nat.reducePow, e1]
    repeat (refine And.intro (by first | omega | (simp only [List.length_append, List.length_cons, List.length_nil]; omega)) ?_)
    exact ⟨by have := z1.le; omega, _, rfl, by simp only [pieceB, List.length_append, List.length_cons, List.length_nil]; omega, z1.up (by omega)⟩
   ·simp only [push_cast, seval, -Nat.reducePow, e1]
    refine ecallK_intro (n47 K.toTC z0.tb (by have := z0.le; omega) 100 _ (by simp [strsB]) (by simp) (by simp) (by simp [V.imms, V.imm])) ?_
    rintro v1 L1 n1 ⟨q1, rfl, hq1, hT1⟩
    have z1 := z0.trans (hT1.dn (by omega))
    try simp only [push_cast, seval, -Nat.reducePow, e1]
    repeat (refine And.intro (by first | omega | (simp only [List.length_append, List.length_cons, List.length_nil]; omega)) ?_)
    refine ecallK_intro (ih z1.tb (by have := z1.le; omega)) ?_
    rintro v2 L2 n2 ⟨q2, rfl, hq2, hT2⟩
    have z2 := z1.trans (hT2.dn (by omega))
    try simp only [push_cast, seval, -Nat.reducePow, e1]
    repeat (refine And.intro (by first | omega | (simp only [List.length_append, List.length_cons, List.length_nil]; omega)) ?_)
    exact ⟨by have := z2.le; omega, _, rfl, by simp only [pieceB, List.length_append, List.length_cons, List.length_nil]; omega, z2.up (by omega)⟩
   ·simp only [push_cast, seval, -Nat.reducePow, e1]
    refine ecallK_intro (n47 K.toTC z0.tb (by have := z0.le; omega) 100 _ (by simp [strsB]) (by simp) (by simp) (by simp [V.imms, V.imm])) ?_
    rintro v1 L1 n1 ⟨q1, rfl, hq1, hT1⟩
    have z1 := z0.trans (hT1.dn (by omega))
    try simp only [push_cast, seval, -Nat.reducePow, e1]
    repeat (refine And.intro (by first | omega | (simp only [List.length_append, List.length_cons, List.length_nil]; omega)) ?_)
    exact ⟨by have := z1.le; omega, _, rfl, by simp only [pieceB, List.length_append, List.length_cons, List.length_nil]; omega, z1.up (by omega)⟩
   ·simp only [push_cast, seval, -Nat.reducePow, e1]
    refine ecallK_intro (n47 K.toTC z0.tb (by have := z0.le; omega) 100 _ (by simp [strsB]) (by simp) (by simp) (by simp [V.imms, V.imm])) ?_
    rintro v1 L1 n1 ⟨q1, rfl, hq1, hT1⟩
    have z1 := z0.trans (hT1.dn (by omega))
    try simp only [push_cast, seval, -Nat.reducePow, e1]
    repeat (refine And.intro (by first | omega | (simp only [List.length_append, List.length_cons, List.length_nil]; omega)) ?_)
    refine ecallK_intro (ih z1.tb (by have := z1.le; omega)) ?_
    rintro v2 L2 n2 ⟨q2, rfl, hq2, hT2⟩
    have z2 := z1.trans (hT2.dn (by omega))
    try simp only [push_cast, seval, -Nat.reducePow, e1]
    repeat (refine And.intro (by first | omega | (simp only [List.length_append, List.length_cons, List.length_nil]; omega)) ?_)
    refine ecallK_intro (n47 K.toTC z2.tb (by have := z2.le; omega) 100 _ (by simp [strsB]) (by simp) (by simp) (by simp [V.imms, V.imm])) ?_
    rintro v3 L3 n3 ⟨q3, rfl, hq3, hT3⟩
    have z3 := z2.trans (hT3.dn (by omega))
    try simp only [push_cast, seval, -Nat.reducePow, e1]
    repeat (refine And.intro (by first | omega | (simp only [List.length_append, List.length_cons, List.length_nil]; omega)) ?_)
    exact ⟨by have := z3.le; omega, _, rfl, by simp only [pieceB, List.length_append, List.length_cons, List.length_nil]; omega, z3.up (by omega)⟩
   ·simp only [push_cast, seval, -Nat.reducePow, e1]
    refine ecallK_intro (n47 K.toTC z0.tb (by have := z0.le; omega) 100 _ (by simp [strsB]) (by simp) (by simp) (by simp [V.imms, V.imm])) ?_
    rintro v1 L1 n1 ⟨q1, rfl, hq1, hT1⟩
    have z1 := z0.trans (hT1.dn (by omega))
    try simp only [push_cast, seval, -Nat.reducePow, e1]
    repeat (refine And.intro (by first | omega | (simp only [List.length_append, List.length_cons, List.length_nil]; omega)) ?_)
    exact ⟨by have := z1.le; omega, _, rfl, by simp only [pieceB, List.length_append, List.length_cons, List.length_nil]; omega, z1.up (by omega)⟩
   ·simp only [push_cast, seval, -Nat.reducePow, e1]
    refine ecallK_intro (n112 K z0.tb (by have := z0.le; omega)) ?_
    rintro v1 L1 n1 ⟨q1, rfl, hq1, hT1⟩
    have z1 := z0.trans (hT1.dn (by omega))
    try simp only [push_cast, seval, -Nat.reducePow, e1]
    repeat (refine And.intro (by first | omega | (simp only [List.length_append, List.length_cons, List.length_nil]; omega)) ?_)
    exact ⟨by have := z1.le; omega, _, rfl, by simp only [pieceB, List.length_append, List.length_cons, List.length_nil]; omega, z1.up (by omega)⟩
   ·simp only [push_cast, seval, -Nat.reducePow, e1]
    refine ecallK_intro (n112 K z0.tb (by have := z0.le; omega)) ?_
    rintro v1 L1 n1 ⟨q1, rfl, hq1, hT1⟩
    have z1 := z0.trans (hT1.dn (by omega))
    try simp only [push_cast, seval, -Nat.reducePow, e1]
    repeat (refine And.intro (by first | omega | (simp only [List.length_append, List.length_cons, List.length_nil]; omega)) ?_)
    exact ⟨by have := z1.le; omega, _, rfl, by simp only [pieceB, List.length_append, List.length_cons, List.length_nil]; omega, z1.up (by omega)⟩
   ·simp only [push_cast, seval, -Nat.reducePow, e1]
    refine ecallK_intro (n112 K z0.tb (by have := z0.le; omega)) ?_
    rintro v1 L1 n1 ⟨q1, rfl, hq1, hT1⟩
    have z1 := z0.trans (hT1.dn (by omega))
    try simp only [push_cast, seval, -Nat.reducePow, e1]
    repeat (refine And.intro (by first | omega | (simp only [List.length_append, List.length_cons, List.length_nil]; omega)) ?_)
    exact ⟨by have := z1.le; omega, _, rfl, by simp only [pieceB, List.length_append, List.length_cons, List.length_nil]; omega, z1.up (by omega)⟩
end Go.Ab
/- Made texts: lines, the text. No condition. -/
namespace Go.Ab
set_option linter.unusedVariables false
set_option linter.unusedSimpArgs false
variable {P : Program} {F T : Nat → Nat}
theorem n63 (K : TC2 P F T) (d : Nat) (hd : d ≤ 8) {L : Heap} {nx p : Nat} (h : TB T L p) (hp : p < nx) : ECall P (F 63) [.ptr p 0, .int .i64 d] L nx (TS T L nx p (100 + 3 * pieceB d)) := by
 have hB : pieceB d ≤ 4000000 := pieceB_le hd
 refine ecallC [] K.h63 (by simp) ?_
 simp only [c63, push_cast, seval, -Nat.reducePow]
 refine ecallK_intro (n47 K.toTC h (by omega) 100 _ (by simp [strsB]) (by simp) (by simp) (by simp [V.imms, V.imm])) ?_
 rintro v L0 n0 ⟨q, rfl, hq, hT⟩
 have z0 := hT.dn (nx := nx) (by omega)
 simp only [push_cast, seval, -Nat.reducePow]
 refine loopK_intro (fun m s => ∃ (j : Nat) (q : List UInt8), j ≤ 3 ∧ m = 4 - j ∧ s.env 0 = .ptr p 0 ∧ s.env 1 = .int .i64 d ∧ s.env 5 = .str q ∧ q.length ≤ 100 + j * pieceB d ∧ s.env 6 = .int .i64 j ∧ TD T L nx p s.L s.nx) 4 ⟨0, q, ?_⟩ fun m s hJ => ?_
 ·simp only [push_cast, seval, -Nat.reducePow]
  exact ⟨by omega, z0.up (by omega)⟩
 ·obtain ⟨j, q, hj, rfl, j0, j1, j5, hq, j6, z⟩ := hJ
  have hle := z.le
  simp only [push_cast, seval, -Nat.reducePow, j0, j1, j5, j6]
  refine ecallK_intro (n46 K.toTC z.tb (by omega) 3 (by omega) (by omega)) ?_
  rintro v L1 n1 ⟨r, rfl, hr, hT1⟩
  have z1 := z.trans (hT1.dn (by omega))
  have hle1 := z1.le
  by_cases hjr : j ≤ r
  ·have hjr' : ((j : Nat) : Int) ≤ (r : Nat) := by omega
   have hj2 : j = 0 ∨ j = 1 ∨ j = 2 := by omega
   simp only [push_cast, seval, -Nat.reducePow, j0, j1, j5, j6, hjr']
   refine ecallK_intro (n93 K d hd z1.tb (by omega)) ?_
   rintro v L2 n2 ⟨q2, rfl, hq2, hT2⟩
   have z2 := z1.trans (hT2.dn (by omega))
   have hmul : (j + 1) * pieceB d = j * pieceB d + pieceB d := by rw [Nat.succ_mul]
   have hjB : j * pieceB d ≤ 2 * 4000000 := Nat.mul_le_mul (by omega) hB
   simp only [push_cast, seval, -Nat.reducePow, j0, j1, j5, j6]
   exact ⟨by omega, ⟨by omega, by omega⟩, 4 - (j + 1), by omega, j + 1, q ++ q2, by omega, rfl, rfl, by rw [List.length_append]; omega, by simp, z2.up (by omega)⟩
  ·have hjr' : ¬ ((j : Nat) : Int) ≤ (r : Nat) := by omega
   have hjB : j * pieceB d ≤ 3 * pieceB d := Nat.mul_le_mul_right _ hj
   simp only [push_cast, seval, -Nat.reducePow, j0, j1, j5, j6, hjr']
   exact ⟨by omega, q, rfl, by omega, z1.up (by omega)⟩
def textB (d : Nat) : Nat := 100 + 5 * (500 + 3 * pieceB d)
theorem n40 (K : TC2 P F T) (d : Nat) (hd : d ≤ 8) {L : Heap} {nx p : Nat} (h : TB T L p) (hp : p < nx) : ECall P (F 40) [.ptr p 0, .int .i64 d] L nx (TS T L nx p (textB d)) := by
 have hB : pieceB d ≤ 4000000 := pieceB_le hd
 refine ecallC [] K.h40 (by simp) ?_
 simp only [c40, push_cast, seval, -Nat.reducePow]
 refine ecallK_intro (n47 K.toTC h (by omega) 100 _ (by simp [strsB]) (by simp) (by simp) (by simp [V.imms, V.imm])) ?_
 rintro v L0 n0 ⟨q, rfl, hq, hT⟩
 have z0 := hT.dn (nx := nx) (by omega)
 have le0 := z0.le
 simp only [push_cast, seval, -Nat.reducePow]
 refine ecallK_intro (n46 K.toTC z0.tb (by omega) 5 (by omega) (by omega)) ?_
 rintro v L1 n1 ⟨r, rfl, hr, hT1⟩
 have z1 := z0.trans (hT1.dn (by omega))
 simp only [push_cast, seval, -Nat.reducePow]
 refine loopK_intro (fun m s => ∃ (j : Nat) (q : List UInt8), j ≤ r + 1 ∧ m = 6 - j ∧ s.env 0 = .ptr p 0 ∧ s.env 1 = .int .i64 d ∧ s.env 5 = .str q ∧ q.length ≤ 100 + j * (500 + 3 * pieceB d) ∧ s.env 6 = .int .i64 r ∧ s.env 7 = .int .i64 j ∧ TD T L nx p s.L s.nx) 6 ⟨0, q, ?_⟩ fun m s hJ => ?_
 ·simp only [push_cast, seval, -Nat.reducePow]
  exact ⟨by omega, z1.up (by omega)⟩
 ·obtain ⟨j, q, hj, rfl, j0, j1, j5, hq, j6, j7, z⟩ := hJ
  have hle := z.le
  by_cases hjr : j ≤ r
  ·have hjr' : ((j : Nat) : Int) ≤ (r : Nat) := by omega
   have hmul : (j + 1) * (500 + 3 * pieceB d) = j * (500 + 3 * pieceB d) + (500 + 3 * pieceB d) := by rw [Nat.succ_mul]
   have hjB : j * (500 + 3 * pieceB d) ≤ 4 * (500 + 3 * 4000000) := Nat.mul_le_mul (by omega) (by omega)
   simp only [push_cast, seval, -Nat.reducePow, j0, j1, j5, j6, j7, hjr']
   refine cutK_intro (fun s => ∃ q : List UInt8, s.env 0 = .ptr p 0 ∧ s.env 1 = .int .i64 d ∧ s.env 5 = .str q ∧ q.length ≤ 101 + j * (500 + 3 * pieceB d) ∧ s.env 6 = .int .i64 r ∧ s.env 7 = .int .i64 j ∧ TD T L nx p s.L s.nx) ?_ ?_
   ·by_cases hj0 : 0 < j
    ·have hj0' : (0 : Int) < ((j : Nat) : Int) := by omega
     simp only [push_cast, seval, -Nat.reducePow, j0, j1, j5, j6, j7, hj0']
     exact ⟨by omega, q ++ [10], rfl, by simp only [List.length_append, List.length_cons, List.length_nil]; omega, z.up (by omega)⟩
    ·have hj0' : ¬ (0 : Int) < ((j : Nat) : Int) := by omega
     simp only [push_cast, seval, -Nat.reducePow, j0, j1, j5, j6, j7, hj0']
     exact ⟨q, rfl, by omega, z.up (by omega)⟩
   ·rintro s2 ⟨q2, i0, i1, i5, hq2, i6, i7, z2⟩
    have le2 := z2.le
    simp only [push_cast, seval, -Nat.reducePow, i0, i1, i5, i6, i7]
    refine cutK_intro (fun s => ∃ q : List UInt8, s.env 0 = .ptr p 0 ∧ s.env 1 = .int .i64 d ∧ s.env 5 = .str q ∧ q.length ≤ 500 + j * (500 + 3 * pieceB d) ∧ s.env 6 = .int .i64 r ∧ s.env 7 = .int .i64 j ∧ TD T L nx p s.L s.nx) ?_ ?_
    ·simp only [push_cast, seval, -Nat.reducePow, i0, i1, i5, i6, i7]
     refine ecallK_intro (n46 K.toTC z2.tb (by omega) 4 (by omega) (by omega)) ?_
     rintro v L3 n3 ⟨r3, rfl, hr3, hT3⟩
     have z3 := z2.trans (hT3.dn (by omega))
     have le3 := z3.le
     simp only [push_cast, seval, -Nat.reducePow, i0, i1, i5, i6, i7]
     refine condK_dec (fun g => ?_) (fun g => ?_)
     ·simp only [push_cast, seval, -Nat.reducePow, i0, i1, i5, i6, i7]
      refine ecallK_intro (n47 K.toTC z3.tb (by omega) 100 _ (by simp [strsB]) (by simp) (by simp) (by simp [V.imms, V.imm])) ?_
      rintro v L4 n4 ⟨q4, rfl, hq4, hT4⟩
      have z4 := z3.trans (hT4.dn (by omega))
      have le4 := z4.le
      simp only [push_cast, seval, -Nat.reducePow, i0, i1, i5, i6, i7]
      refine ⟨by omega, ecallK_intro (n47 K.toTC z4.tb (by omega) 100 _ (by simp [strsB]) (by simp) (by simp) (by simp [V.imms, V.imm])) ?_⟩
      rintro v L5 n5 ⟨q5, rfl, hq5, hT5⟩
      have z5 := z4.trans (hT5.dn (by omega))
      simp only [push_cast, seval, -Nat.reducePow, i0, i1, i5, i6, i7]
      have hlen : (q2 ++ q4 ++ q5 ++ q4 ++ [10]).length = q2.length + q4.length + q5.length + q4.length + 1 := by simp [Nat.add_assoc]
      refine ⟨by simp only [List.length_append]; omega, by simp only [List.length_append]; omega, by simp only [List.length_append]; omega, q2 ++ q4 ++ q5 ++ q4 ++ [10], rfl, by rw [hlen]; omega, z5.up (by omega)⟩
     ·simp only [push_cast, seval, -Nat.reducePow, i0, i1, i5, i6, i7]
      exact ⟨q2, rfl, by omega, z3.up (by omega)⟩
    ·rintro s5 ⟨q5, k0, k1, k5, hq5, k6, k7, z5⟩
     have le5 := z5.le
     simp only [push_cast, seval, -Nat.reducePow, k0, k1, k5, k6, k7]
     refine ecallK_intro (n63 K d hd z5.tb (by omega)) ?_
     rintro v L6 n6 ⟨q6, rfl, hq6, hT6⟩
     have z6 := z5.trans (hT6.dn (by omega))
     simp only [push_cast, seval, -Nat.reducePow, k0, k1, k5, k6, k7]
     exact ⟨by omega, ⟨by omega, by omega⟩, 6 - (j + 1), by omega, j + 1, q5 ++ q6, by omega, rfl, rfl, by rw [List.length_append]; omega, by simp, z6.up (by omega)⟩
  ·have hjr' : ¬ ((j : Nat) : Int) ≤ (r : Nat) := by omega
   have hjB : j * (500 + 3 * pieceB d) ≤ 5 * (500 + 3 * pieceB d) := Nat.mul_le_mul_right _ (by omega)
   simp only [push_cast, seval, -Nat.reducePow, j0, j1, j5, j6, j7, hjr']
   exact ⟨by omega, q, rfl, by unfold textB; omega, z.up (by omega)⟩
end Go.Ab
