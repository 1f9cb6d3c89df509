/- Lowered code of the functions, by program. No condition. -/
import Derived.Test.YtcmnepgnkcoiiaaGreatDoorAbG11
set_option linter.unusedVariables false
namespace Go.Ab
def c180 (F T:Nat→Nat):C :=
 .seq (.ops false [⟨none,[.box 2 (T 16) (.t 0),.box 3 (T 21) (.t 1),.mov (some 4) (.k .nils)]⟩]) <|
 .seq (.ops false [⟨none,[.mkv 10 (T 21) 1 [(.k (.str [97,108,108]))],.alloc 5 (T 26) [.nils],.store 1 (.t 5) (.t 10)]⟩]) <|
 .seq (.ops false [⟨none,[.load (some 11) false 1 false (.t 3),.call (some 12) true (F 191) [(.t 11)],.alloc 6 (T 15) [(.bool false)],.store 1 (.t 6) (.t 12)]⟩]) <|
 .seq (.seq (.ops false [⟨none,[.load (some 13) false 1 false (.t 6)]⟩]) <|
 .cond (.t 13)
 (.ops false [⟨none,[.load (some 14) false 1 false (.t 5),.mkl (some 15) 1 [(.k (.str [117,115,101,114,115]))],.app 16 (T 21) 1 (.t 14) (.t 15),.store 1 (.t 5) (.t 16)]⟩])
 (.skip)) <|
 .seq (.seq (.ops false [⟨none,[.mov (some 7) (.k (.bool true))]⟩]) <|
 .block 0 <|
 .loop <|
 .seq (.seq (.ops false [⟨none,[.mov (some 17) (.t 7)]⟩]) <|
 .cond (.t 17)
 (.skip)
 (.exit 0)) <|
 .block 1 <|
 .seq (.ops false [⟨none,[.mov (some 7) (.k (.bool false))]⟩]) <|
 .seq (.ops false [⟨none,[.fadr (some 18) 0 (.t 2),.load (some 19) false 1 false (.t 18),.len (some 20) false (.t 19),.mov (some 21) (.k (.int .i64 0))]⟩]) <|
 .block 2 <|
 .loop <|
 .seq (.ops false [⟨none,[.bin (some 22) .lss (.t 21) (.t 20)]⟩]) <|
 .seq (.cond (.t 22)
 (.skip)
 (.exit 2)) <|
 .seq (.block 3 <|
 .seq (.ops false [⟨none,[.iadr (some 23) 2 (.t 19) (.t 21),.load (some 24) false 2 true (.t 23),.alloc 9 (T 22) [(.str []),.nils],.store 2 (.t 9) (.t 24)]⟩]) <|
 .seq (.seq (.ops false [⟨none,[.load (some 25) false 1 false (.t 5),.fadr (some 26) 0 (.t 9),.load (some 27) false 1 false (.t 26),.call (some 28) false (F 220) [(.t 25),(.t 27)]]⟩]) <|
 .cond (.t 28)
 (.exit 3)
 (.skip)) <|
 .seq (.ops false [⟨none,[.fadr (some 29) 1 (.t 9),.load (some 30) false 1 false (.t 29),.clos (some 31) (F 225) [(.t 6),(.t 3),(.t 5)],.ecall (some 32) 42 (F 223) [(.t 30),(.t 31)]]⟩]) <|
 .cond (.t 32)
 (.seq (.ops false [⟨none,[.load (some 33) false 1 false (.t 5),.fadr (some 34) 0 (.t 9),.load (some 35) false 1 false (.t 34),.mkl (some 36) 1 [(.t 35)],.app 37 (T 21) 1 (.t 33) (.t 36),.store 1 (.t 5) (.t 37)]⟩]) <|
 .ops false [⟨none,[.mov (some 7) (.k (.bool true))]⟩])
 (.skip)) <|
 .ops false [⟨none,[.bin (some 38) .add (.t 21) (.k (.int .i64 1)),.mov (some 21) (.t 38)]⟩]) <|
 .seq (.ops false [⟨none,[.load (some 39) false 1 false (.t 5),.ecall (some 40) 42 (F 226) [(.t 39)]]⟩]) <|
 .seq (.ops false [⟨none,[.load (some 41) false 1 false (.t 5),.mov (some 4) (.t 41)]⟩]) <|
 .ret
abbrev Is180 (P:Program) (F T:Nat→Nat):Prop:=Fn P (F 180) 42 [(4,none)] (c180 F T)
def c181 (F T:Nat→Nat):C :=
 .seq (.ops false [⟨none,[.box 1 (T 17) (.t 0),.mov (some 2) (.k .nils)]⟩]) <|
 .seq (.ops false [⟨none,[.load (some 7) false 2 true (.t 1),.build (some 8) [(.int .i64 0),(.int .i64 0),(.str [])] [(0,1,(.k (.int .i64 3))),(1,2,(.t 7))],.mkv 9 (T 18) 3 [(.t 8)],.mov (some 3) (.t 9)]⟩]) <|
 .seq (.ops false [⟨none,[.load (some 10) false 2 true (.t 1),.ecall (some 11) 34 (F 186) [(.t 10)],.mov (some 4) (.t 11)]⟩]) <|
 .seq (.ops false [⟨none,[.mov (some 12) (.t 4),.ecall (some 13) 34 (F 229) [(.t 12)]]⟩]) <|
 .seq (.seq (.ops false [⟨none,[.mov (some 14) (.t 4),.len (some 15) false (.t 14),.mov (some 16) (.k (.int .i64 0))]⟩]) <|
 .block 0 <|
 .loop <|
 .seq (.ops false [⟨none,[.bin (some 17) .lss (.t 16) (.t 15)]⟩]) <|
 .seq (.cond (.t 17)
 (.skip)
 (.exit 0)) <|
 .seq (.block 1 <|
 .seq (.ops false [⟨none,[.iadr (some 18) 2 (.t 14) (.t 16),.load (some 19) false 2 true (.t 18),.alloc 6 (T 17) [(.int .i64 0),(.str [])],.store 2 (.t 6) (.t 19)]⟩]) <|
 .ops false [⟨none,[.mov (some 20) (.t 3),.load (some 21) false 2 true (.t 6),.build (some 22) [(.int .i64 0),(.int .i64 0),(.str [])] [(0,1,(.k (.int .i64 3))),(1,2,(.t 21))],.mkl (some 23) 3 [(.t 22)],.app 24 (T 18) 3 (.t 20) (.t 23),.mov (some 3) (.t 24)]⟩]) <|
 .ops false [⟨none,[.bin (some 25) .add (.t 16) (.k (.int .i64 1)),.mov (some 16) (.t 25)]⟩]) <|
 .seq (.ops false [⟨none,[.mov (some 26) (.t 3),.fadr (some 27) 0 (.t 1),.load (some 28) false 1 false (.t 27),.build (some 29) [(.int .i64 0),(.str [])] [(0,1,(.t 28))],.build (some 30) [(.int .i64 0),(.int .i64 0),(.str [])] [(0,1,(.k (.int .i64 2))),(1,2,(.t 29))],.build (some 31) [(.int .i64 0),(.int .i64 0),(.str [])] [(0,1,(.k (.int .i64 1)))],.mkl (some 32) 3 [(.t 30),(.t 31)],.app 33 (T 18) 3 (.t 26) (.t 32),.mov (some 2) (.t 33)]⟩]) <|
 .ret
abbrev Is181 (P:Program) (F T:Nat→Nat):Prop:=Fn P (F 181) 34 [(2,none)] (c181 F T)
def c194 (F T:Nat→Nat):C :=
 .seq (.ops false [⟨none,[.box 1 (T 17) (.t 0),.mov (some 2) (.k .nils)]⟩]) <|
 .seq (.ops false [⟨none,[.load (some 6) false 2 true (.t 1),.build (some 7) [(.int .i64 0),(.int .i64 0),(.str [])] [(0,1,(.k (.int .i64 3))),(1,2,(.t 6))],.mkv 8 (T 18) 3 [(.t 7)],.mov (some 3) (.t 8)]⟩]) <|
 .seq (.ops false [⟨none,[.load (some 9) false 2 true (.t 1),.call (some 10) true (F 200) [(.t 9)],.mov (some 4) (.t 10)]⟩]) <|
 .seq (.seq (.ops false [⟨none,[.mov (some 11) (.t 4),.len (some 12) false (.t 11),.bin (some 13) .sub (.t 12) (.k (.int .i64 1)),.mov (some 5) (.t 13)]⟩]) <|
 .block 0 <|
 .loop <|
 .seq (.seq (.ops false [⟨none,[.mov (some 14) (.t 5),.bin (some 15) .geq (.t 14) (.k (.int .i64 0))]⟩]) <|
 .cond (.t 15)
 (.skip)
 (.exit 0)) <|
 .seq (.block 1 <|
 .ops false [⟨none,[.mov (some 18) (.t 3),.mov (some 19) (.t 4),.mov (some 20) (.t 5),.iadr (some 21) 2 (.t 19) (.t 20),.load (some 22) false 2 true (.t 21),.build (some 23) [(.int .i64 0),(.int .i64 0),(.str [])] [(0,1,(.k (.int .i64 3))),(1,2,(.t 22))],.mkl (some 24) 3 [(.t 23)],.app 25 (T 18) 3 (.t 18) (.t 24),.mov (some 3) (.t 25)]⟩]) <|
 .ops false [⟨none,[.mov (some 16) (.t 5),.bin (some 17) .sub (.t 16) (.k (.int .i64 1)),.mov (some 5) (.t 17)]⟩]) <|
 .seq (.ops false [⟨none,[.mov (some 26) (.t 3),.fadr (some 27) 0 (.t 1),.load (some 28) false 1 false (.t 27),.build (some 29) [(.int .i64 0),(.str [])] [(0,1,(.t 28))],.build (some 30) [(.int .i64 0),(.int .i64 0),(.str [])] [(0,1,(.k (.int .i64 2))),(1,2,(.t 29))],.build (some 31) [(.int .i64 0),(.int .i64 0),(.str [])] [(0,1,(.k (.int .i64 1)))],.mkl (some 32) 3 [(.t 30),(.t 31)],.app 33 (T 18) 3 (.t 26) (.t 32),.mov (some 2) (.t 33)]⟩]) <|
 .ret
abbrev Is194 (P:Program) (F T:Nat→Nat):Prop:=Fn P (F 194) 34 [(2,none)] (c194 F T)
def c201 (F T:Nat→Nat):C :=
 .seq (.ops false [⟨none,[.mov (some 2) (.k .nils)]⟩]) <|
 .seq (.ops false [⟨none,[.mkv 5 (T 21) 1 [(.k (.str []))],.mov (some 3) (.t 5)]⟩]) <|
 .seq (.seq (.ops false [⟨none,[.mov (some 4) (.k (.int .i64 0))]⟩]) <|
 .block 0 <|
 .loop <|
 .seq (.seq (.ops false [⟨none,[.mov (some 6) (.t 4),.mov (some 7) (.t 0),.len (some 8) true (.t 7),.bin (some 9) .lss (.t 6) (.t 8)]⟩]) <|
 .cond (.t 9)
 (.skip)
 (.exit 0)) <|
 .seq (.block 1 <|
 .seq (.ops false [⟨none,[.mov (some 12) (.t 0),.mov (some 13) (.t 4),.idx (some 14) (.t 12) (.t 13),.bin (some 15) .eql (.t 14) (.k (.int .u8 47))]⟩]) <|
 .cond (.t 15)
 (.ops false [⟨none,[.mov (some 16) (.t 3),.mkl (some 17) 1 [(.k (.str []))],.app 18 (T 21) 1 (.t 16) (.t 17),.mov (some 3) (.t 18)]⟩])
 (.ops true [⟨none,[.mov (some 19) (.t 3),.mov (some 20) (.t 3),.len (some 21) false (.t 20),.bin (some 22) .sub (.t 21) (.k (.int .i64 1)),.mov (some 23) (.t 3),.mov (some 24) (.t 3),.len (some 25) false (.t 24),.bin (some 26) .sub (.t 25) (.k (.int .i64 1)),.iadr (some 27) 1 (.t 23) (.t 26),.load (some 28) false 1 false (.t 27),.mov (some 29) (.t 0),.mov (some 30) (.t 4),.mov (some 31) (.t 4),.bin (some 32) .add (.t 31) (.k (.int .i64 1)),.slcS (some 33) (.t 29) (some (.t 30)) (some (.t 32)),.bin (some 34) .add (.t 28) (.t 33),.iadr (some 35) 1 (.t 19) (.t 22),.store 1 (.t 35) (.t 34)]⟩])) <|
 .ops false [⟨none,[.mov (some 10) (.t 4),.bin (some 11) .add (.t 10) (.k (.int .i64 1)),.mov (some 4) (.t 11)]⟩]) <|
 .seq (.ops false [⟨none,[.mov (some 36) (.t 3),.mov (some 2) (.t 36)]⟩]) <|
 .ret
abbrev Is201 (P:Program) (F T:Nat→Nat):Prop:=Fn P (F 201) 37 [(2,none)] (c201 F T)
def c226 (F T:Nat→Nat):C :=
 .seq (.ops false [⟨none,[.mov (some 3) (.t 0),.len (some 4) false (.t 3),.mov (some 2) (.t 4)]⟩]) <|
 .ops false [⟨none,[.mov (some 5) (.t 0),.mov (some 6) (.t 2),.mov (some 7) (.t 2),.cvt (some 8) .u64 (.t 7),.call (some 9) true (F 227) [(.t 8)],.ecall (some 10) 11 (F 228) [(.t 5),(.k (.int .i64 0)),(.t 6),(.t 9)]]⟩]
abbrev Is226 (P:Program) (F T:Nat→Nat):Prop:=Fn P (F 226) 11 [] (c226 F T)
def c228 (F T:Nat→Nat):C :=
 .seq (.ops false [⟨none,[.mov (some 8) (.k (.bool true))]⟩]) <|
 .seq (.ops false [⟨none,[.mov (some 9) (.k (.bool true))]⟩]) <|
 .block 0 <|
 .loop <|
 .block 1 <|
 .seq (.ops false [⟨none,[.mov (some 19) (.t 2),.mov (some 20) (.t 1),.bin (some 21) .sub (.t 19) (.t 20),.mov (some 10) (.t 21)]⟩]) <|
 .seq (.seq (.ops false [⟨none,[.mov (some 22) (.t 10),.bin (some 23) .leq (.t 22) (.k (.int .i64 12))]⟩]) <|
 .cond (.t 23)
 (.seq (.ops false [⟨none,[.mov (some 24) (.t 0),.mov (some 25) (.t 1),.mov (some 26) (.t 2),.ecall (some 27) 134 (F 230) [(.t 24),(.t 25),(.t 26)]]⟩]) <|
 .ret)
 (.skip)) <|
 .seq (.seq (.ops false [⟨none,[.mov (some 28) (.t 3),.bin (some 29) .eql (.t 28) (.k (.int .i64 0))]⟩]) <|
 .cond (.t 29)
 (.seq (.ops false [⟨none,[.mov (some 30) (.t 0),.mov (some 31) (.t 1),.mov (some 32) (.t 2),.call (some 33) true (F 231) [(.t 30),(.t 31),(.t 32)]]⟩]) <|
 .ret)
 (.skip)) <|
 .seq (.seq (.ops false [⟨none,[.mov (some 34) (.t 8),.un (some 35) .not (.t 34)]⟩]) <|
 .cond (.t 35)
 (.seq (.ops false [⟨none,[.mov (some 36) (.t 0),.mov (some 37) (.t 1),.mov (some 38) (.t 2),.call (some 39) true (F 232) [(.t 36),(.t 37),(.t 38)]]⟩]) <|
 .ops false [⟨none,[.mov (some 40) (.t 3),.bin (some 41) .sub (.t 40) (.k (.int .i64 1)),.mov (some 3) (.t 41)]⟩])
 (.skip)) <|
 .seq (.ops false [⟨none,[.mov (some 43) (.t 0),.mov (some 44) (.t 1),.mov (some 45) (.t 2),.call (some 46) true (F 233) [(.t 43),(.t 44),(.t 45)],.mov (some 42) (.t 46),.ext (some 47) 0 (.t 42),.ext (some 48) 1 (.t 42),.mov (some 11) (.t 47),.mov (some 12) (.t 48)]⟩]) <|
 .seq (.seq (.ops false [⟨none,[.mov (some 49) (.t 12),.bin (some 50) .eql (.t 49) (.k (.int .i64 2))]⟩]) <|
 .cond (.t 50)
 (.seq (.ops false [⟨none,[.mov (some 51) (.t 0),.mov (some 52) (.t 1),.mov (some 53) (.t 2),.call (some 54) true (F 234) [(.t 51),(.t 52),(.t 53)]]⟩]) <|
 .seq (.ops false [⟨none,[.mov (some 55) (.t 2),.bin (some 56) .sub (.t 55) (.k (.int .i64 1)),.mov (some 57) (.t 11),.mov (some 58) (.t 1),.bin (some 59) .sub (.t 57) (.t 58),.bin (some 60) .sub (.t 56) (.t 59),.mov (some 11) (.t 60)]⟩]) <|
 .ops false [⟨none,[.mov (some 12) (.k (.int .i64 1))]⟩])
 (.skip)) <|
 .seq (.seq (.ops false [⟨none,[.mov (some 61) (.t 8),.mov (some 62) (.t 61)]⟩,
 ⟨some (62,true),[.mov (some 63) (.t 9)]⟩,
 ⟨none,[.pick (some 64) (.t 62) (.t 63) (.k (.bool false)),.mov (some 65) (.t 64)]⟩,
 ⟨some (65,true),[.mov (some 66) (.t 12),.bin (some 67) .eql (.t 66) (.k (.int .i64 1))]⟩,
 ⟨none,[.pick (some 68) (.t 65) (.t 67) (.k (.bool false))]⟩]) <|
 .cond (.t 68)
 (.seq (.ops false [⟨none,[.mov (some 69) (.t 0),.mov (some 70) (.t 1),.mov (some 71) (.t 2),.call (some 72) true (F 235) [(.t 69),(.t 70),(.t 71)]]⟩]) <|
 .cond (.t 72)
 (.ret)
 (.skip))
 (.skip)) <|
 .seq (.seq (.ops true [⟨none,[.mov (some 73) (.t 1),.bin (some 74) .gtr (.t 73) (.k (.int .i64 0)),.mov (some 75) (.t 74)]⟩,
 ⟨some (75,true),[.mov (some 76) (.t 0),.mov (some 77) (.t 1),.bin (some 78) .sub (.t 77) (.k (.int .i64 1)),.iadr (some 79) 1 (.t 76) (.t 78),.load (some 80) false 1 false (.t 79),.mov (some 81) (.t 0),.mov (some 82) (.t 11),.iadr (some 83) 1 (.t 81) (.t 82),.load (some 84) false 1 false (.t 83),.call (some 85) true (F 236) [(.t 80),(.t 84)],.un (some 86) .not (.t 85)]⟩,
 ⟨none,[.pick (some 87) (.t 75) (.t 86) (.k (.bool false))]⟩]) <|
 .cond (.t 87)
 (.seq (.ops false [⟨none,[.mov (some 88) (.t 0),.mov (some 89) (.t 1),.mov (some 90) (.t 2),.mov (some 91) (.t 11),.call (some 92) true (F 237) [(.t 88),(.t 89),(.t 90),(.t 91)],.mov (some 13) (.t 92)]⟩]) <|
 .seq (.ops false [⟨none,[.mov (some 93) (.t 13),.mov (some 1) (.t 93)]⟩]) <|
 .exit 1)
 (.skip)) <|
 .seq (.ops false [⟨none,[.mov (some 95) (.t 0),.mov (some 96) (.t 1),.mov (some 97) (.t 2),.mov (some 98) (.t 11),.call (some 99) true (F 238) [(.t 95),(.t 96),(.t 97),(.t 98)],.mov (some 94) (.t 99),.ext (some 100) 0 (.t 94),.ext (some 101) 1 (.t 94),.mov (some 14) (.t 100),.mov (some 15) (.t 101)]⟩]) <|
 .seq (.ops false [⟨none,[.mov (some 102) (.t 15),.mov (some 9) (.t 102)]⟩]) <|
 .seq (.ops false [⟨none,[.mov (some 103) (.t 14),.mov (some 104) (.t 1),.bin (some 105) .sub (.t 103) (.t 104),.mov (some 106) (.t 2),.mov (some 107) (.t 14),.bin (some 108) .sub (.t 106) (.t 107),.mov (some 16) (.t 105),.mov (some 17) (.t 108)]⟩]) <|
 .seq (.ops false [⟨none,[.mov (some 109) (.t 10),.bin (some 110) .quo (.t 109) (.k (.int .i64 8)),.mov (some 18) (.t 110)]⟩]) <|
 .seq (.ops false [⟨none,[.mov (some 111) (.t 16),.mov (some 112) (.t 17),.bin (some 113) .lss (.t 111) (.t 112)]⟩]) <|
 .cond (.t 113)
 (.seq (.ops false [⟨none,[.mov (some 114) (.t 16),.mov (some 115) (.t 18),.bin (some 116) .geq (.t 114) (.t 115),.mov (some 8) (.t 116)]⟩]) <|
 .seq (.ops false [⟨none,[.mov (some 117) (.t 0),.mov (some 118) (.t 1),.mov (some 119) (.t 14),.mov (some 120) (.t 3),.ecall (some 121) 134 (F 228) [(.t 117),(.t 118),(.t 119),(.t 120)]]⟩]) <|
 .ops false [⟨none,[.mov (some 122) (.t 14),.bin (some 123) .add (.t 122) (.k (.int .i64 1)),.mov (some 1) (.t 123)]⟩])
 (.seq (.ops false [⟨none,[.mov (some 124) (.t 17),.mov (some 125) (.t 18),.bin (some 126) .geq (.t 124) (.t 125),.mov (some 8) (.t 126)]⟩]) <|
 .seq (.ops false [⟨none,[.mov (some 127) (.t 0),.mov (some 128) (.t 14),.bin (some 129) .add (.t 128) (.k (.int .i64 1)),.mov (some 130) (.t 2),.mov (some 131) (.t 3),.ecall (some 132) 134 (F 228) [(.t 127),(.t 129),(.t 130),(.t 131)]]⟩]) <|
 .ops false [⟨none,[.mov (some 133) (.t 14),.mov (some 2) (.t 133)]⟩])
abbrev Is228 (P:Program) (F T:Nat→Nat):Prop:=Fn P (F 228) 134 [] (c228 F T)
end Go.Ab
