/- Lowered code of the functions, by program. No condition. -/
import Derived.Test.YtcmnepgnkcoiiaaGreatDoorAbP1
set_option linter.unusedVariables false
namespace Go.Ab
def c37 (F T:Nat→Nat):C :=
 .seq (.ops false [⟨none,[.mov (some 2) (.k .nils),.mov (some 3) (.k (.int .i64 0))]⟩]) <|
 .seq (.ops false [⟨none,[.mov (some 9) (.t 0),.call (some 10) true (F 50) [(.t 9)],.mov (some 8) (.t 10),.ext (some 11) 0 (.t 8),.ext (some 12) 1 (.t 8),.mov (some 4) (.t 11),.mov (some 5) (.t 12)]⟩]) <|
 .seq (.seq (.ops false [⟨none,[.mov (some 13) (.t 5),.bin (some 14) .neq (.t 13) (.k (.int .i64 0))]⟩]) <|
 .cond (.t 14)
 (.seq (.ops false [⟨none,[.mov (some 15) (.t 5),.mov (some 2) (.k .nils),.mov (some 3) (.t 15)]⟩]) <|
 .ret)
 (.skip)) <|
 .seq (.gha .fz <| .ops false [⟨none,[.build (some 16) [(.int .i64 0),(.int .i64 0),(.int .i64 0),.nils,.nils] [],.mkl (some 17) 5 [(.t 16)],.build (some 18) [.nils] [(0,1,(.t 17))],.box 19 (T 9) (.t 18),.mov (some 6) (.t 19)]⟩]) <|
 .seq (.seq (.ops false [⟨none,[.mov (some 7) (.k (.int .i64 0))]⟩]) <|
 .block 0 <|
 .loop <|
 .seq (.seq (.ops false [⟨none,[.mov (some 20) (.t 7),.mov (some 21) (.t 4),.len (some 22) false (.t 21),.bin (some 23) .lss (.t 20) (.t 22)]⟩]) <|
 .cond (.t 23)
 (.skip)
 (.exit 0)) <|
 .seq (.block 1 <|
 .ops false [⟨none,[.mov (some 26) (.t 6),.mov (some 27) (.t 0),.mov (some 28) (.t 4),.mov (some 29) (.t 7),.iadr (some 30) 3 (.t 28) (.t 29),.load (some 31) false 3 true (.t 30),.ecall (some 32) 38 (F 60) [(.t 26),(.t 27),(.t 31)]]⟩]) <|
 .ops false [⟨none,[.mov (some 24) (.t 7),.bin (some 25) .add (.t 24) (.k (.int .i64 1)),.mov (some 7) (.t 25)]⟩]) <|
 .seq (.ops false [⟨none,[.mov (some 33) (.t 6),.ecall (some 34) 38 (F 61) [(.t 33),(.k (.int .i64 0))]]⟩]) <|
 .seq (.ops false [⟨none,[.mov (some 35) (.t 6),.ecall (some 36) 38 (F 62) [(.t 35)],.field (some 37) 3 1 false (.t 36),.mov (some 2) (.t 37),.mov (some 3) (.k (.int .i64 0))]⟩]) <|
 .ret
abbrev Is37 (P:Program) (F T:Nat→Nat):Prop:=Fn P (F 37) 38 [(2,none),(3,none)] (c37 F T)
def c60 (F T:Nat→Nat):C :=
 .seq (.ops false [⟨none,[.box 5 (T 8) (.t 2)]⟩]) <|
 .seq (.ops false [⟨none,[.mov (some 11) (.t 1),.load (some 12) false 3 true (.t 5),.call (some 13) true (F 81) [(.t 11),(.t 12)],.mov (some 6) (.t 13)]⟩]) <|
 .seq (.ops false [⟨none,[.fadr (some 14) 0 (.t 5),.load (some 15) false 1 false (.t 14)]⟩]) <|
 .block 0 <|
 .seq (.ops false [⟨none,[.bin (some 20) .eql (.t 15) (.k (.int .i64 9)),.mov (some 19) (.t 20)]⟩]) <|
 .cond (.t 19)
 (.ops false [⟨none,[.mov (some 21) (.t 0),.mov (some 22) (.t 6),.build (some 23) [(.int .i64 0),(.int .i64 0),(.str []),.nils,.nils] [(0,1,(.k (.int .i64 2))),(2,1,(.t 22))],.ecall (some 24) 131 (F 82) [(.t 21),(.t 23)]]⟩])
 (.seq (.ops false [⟨none,[.bin (some 26) .eql (.t 15) (.k (.int .i64 10)),.mov (some 25) (.t 26)]⟩]) <|
 .cond (.t 25)
 (.ops false [⟨none,[.mov (some 27) (.t 0),.mov (some 28) (.t 6),.mov (some 29) (.t 6),.len (some 30) true (.t 29),.bin (some 31) .sub (.t 30) (.k (.int .i64 9)),.slcS (some 32) (.t 28) (some (.k (.int .i64 8))) (some (.t 31)),.build (some 33) [(.int .i64 0),(.int .i64 0),(.str []),.nils,.nils] [(0,1,(.k (.int .i64 3))),(2,1,(.t 32))],.ecall (some 34) 131 (F 82) [(.t 27),(.t 33)]]⟩])
 (.seq (.ops false [⟨none,[.bin (some 36) .eql (.t 15) (.k (.int .i64 3)),.mov (some 35) (.t 36)]⟩]) <|
 .cond (.t 35)
 (.ops false [⟨none,[.mov (some 37) (.t 0),.mov (some 38) (.t 6),.len (some 39) true (.t 38),.build (some 40) [(.int .i64 0),(.int .i64 0),(.int .i64 0),.nils,.nils] [(0,1,(.k (.int .i64 3))),(2,1,(.t 39))],.mov (some 41) (.t 6),.ecall (some 42) 131 (F 83) [(.t 37),(.t 40),(.t 41)]]⟩])
 (.seq (.ops false [⟨none,[.bin (some 44) .eql (.t 15) (.k (.int .i64 5)),.mov (some 43) (.t 44)]⟩]) <|
 .cond (.t 43)
 (.ops false [⟨none,[.mov (some 45) (.t 0),.build (some 46) [(.int .i64 0),(.int .i64 0),(.int .i64 0),.nils,.nils] [(0,1,(.k (.int .i64 1)))],.mov (some 47) (.t 6),.ecall (some 48) 131 (F 83) [(.t 45),(.t 46),(.t 47)]]⟩])
 (.seq (.ops false [⟨none,[.bin (some 50) .eql (.t 15) (.k (.int .i64 11)),.mov (some 49) (.t 50)]⟩]) <|
 .cond (.t 49)
 (.ops false [⟨none,[.mov (some 51) (.t 0),.mov (some 52) (.t 1),.load (some 53) false 3 true (.t 5),.call (some 54) true (F 84) [(.t 52),(.t 53)],.build (some 55) [(.int .i64 0),(.int .i64 0),(.int .i64 0),.nils,.nils] [(0,1,(.k (.int .i64 2))),(1,1,(.t 54))],.mov (some 56) (.t 6),.ecall (some 57) 131 (F 83) [(.t 51),(.t 55),(.t 56)]]⟩])
 (.seq (.ops false [⟨none,[.bin (some 59) .eql (.t 15) (.k (.int .i64 7)),.mov (some 58) (.t 59)]⟩]) <|
 .cond (.t 58)
 (.seq (.seq (.ops false [⟨none,[.mov (some 60) (.t 0),.ecall (some 61) 131 (F 62) [(.t 60)],.alloc 7 (T 11) [(.int .i64 0),(.int .i64 0),(.int .i64 0),.nils,.nils],.store 5 (.t 7) (.t 61)]⟩]) <|
 .seq (.ops false [⟨none,[.fadr (some 62) 0 (.t 7),.load (some 63) false 1 false (.t 62),.bin (some 64) .eql (.t 63) (.k (.int .i64 3))]⟩]) <|
 .cond (.t 64)
 (.seq (.gha .fz <| .ops false [⟨none,[.fadr (some 65) 4 (.t 7),.load (some 66) false 1 false (.t 65),.app 67 (T 1) 3 (.k .nils) (.t 66),.build (some 68) [(.bool false),.nils,.nils] [],.mkl (some 69) 3 [(.t 68)],.app 70 (T 1) 3 (.t 67) (.t 69),.fadr (some 71) 4 (.t 7),.store 1 (.t 71) (.t 70)]⟩]) <|
 .seq (.ops false [⟨none,[.mov (some 72) (.t 0),.load (some 73) false 5 true (.t 7),.ecall (some 74) 131 (F 85) [(.t 72),(.t 73)]]⟩]) <|
 .ret)
 (.skip)) <|
 .ops false [⟨none,[.mov (some 75) (.t 0),.mov (some 76) (.t 6),.ecall (some 77) 131 (F 86) [(.t 75),(.t 76)]]⟩])
 (.seq (.ops false [⟨none,[.bin (some 79) .eql (.t 15) (.k (.int .i64 8)),.mov (some 78) (.t 79)]⟩]) <|
 .cond (.t 78)
 (.ops false [⟨none,[.mov (some 80) (.t 0),.ecall (some 81) 131 (F 87) [(.t 80)]]⟩])
 (.seq (.ops false [⟨none,[.bin (some 83) .eql (.t 15) (.k (.int .i64 6)),.mov (some 82) (.t 83)]⟩]) <|
 .cond (.t 82)
 (.seq (.seq (.ops false [⟨none,[.mov (some 84) (.t 0),.ecall (some 85) 131 (F 62) [(.t 84)],.field (some 86) 0 1 false (.t 85),.bin (some 87) .neq (.t 86) (.k (.int .i64 1))]⟩]) <|
 .cond (.t 87)
 (.seq (.ops false [⟨none,[.mov (some 88) (.t 0),.mov (some 89) (.t 6),.ecall (some 90) 131 (F 86) [(.t 88),(.t 89)]]⟩]) <|
 .ret)
 (.skip)) <|
 .seq (.ops false [⟨none,[.mov (some 91) (.t 0),.ecall (some 92) 131 (F 88) [(.t 91)],.alloc 8 (T 11) [(.int .i64 0),(.int .i64 0),(.int .i64 0),.nils,.nils],.store 5 (.t 8) (.t 92)]⟩]) <|
 .seq (.ops false [⟨none,[.mov (some 93) (.t 0),.ecall (some 94) 131 (F 86) [(.t 93),(.k (.str [91,91]))]]⟩]) <|
 .seq (.ops false [⟨none,[.mov (some 95) (.t 0),.fadr (some 96) 3 (.t 8),.load (some 97) false 1 false (.t 96),.ecall (some 98) 131 (F 89) [(.t 95),(.t 97)]]⟩]) <|
 .ops false [⟨none,[.mov (some 99) (.t 0),.ecall (some 100) 131 (F 86) [(.t 99),(.k (.str [93,93]))]]⟩])
 (.seq (.ops false [⟨none,[.bin (some 102) .eql (.t 15) (.k (.int .i64 12)),.mov (some 101) (.t 102)]⟩]) <|
 .cond (.t 101)
 (.seq (.ops false [⟨none,[.mov (some 103) (.t 0),.mov (some 104) (.t 1),.load (some 105) false 3 true (.t 5),.call (some 106) true (F 84) [(.t 104),(.t 105)],.ecall (some 107) 131 (F 90) [(.t 103),(.t 106)],.mov (some 9) (.t 107)]⟩]) <|
 .seq (.seq (.ops false [⟨none,[.mov (some 108) (.t 9),.bin (some 109) .eql (.t 108) (.k (.int .i64 0))]⟩]) <|
 .cond (.t 109)
 (.seq (.ops false [⟨none,[.mov (some 110) (.t 0),.mov (some 111) (.t 6),.ecall (some 112) 131 (F 86) [(.t 110),(.t 111)]]⟩]) <|
 .ret)
 (.skip)) <|
 .seq (.ops false [⟨none,[.mov (some 113) (.t 0),.mov (some 114) (.t 9),.ecall (some 115) 131 (F 61) [(.t 113),(.t 114)]]⟩]) <|
 .seq (.ops false [⟨none,[.mov (some 116) (.t 0),.ecall (some 117) 131 (F 88) [(.t 116)],.alloc 10 (T 11) [(.int .i64 0),(.int .i64 0),(.int .i64 0),.nils,.nils],.store 5 (.t 10) (.t 117)]⟩]) <|
 .ops false [⟨none,[.mov (some 118) (.t 0),.fadr (some 119) 1 (.t 10),.load (some 120) false 1 false (.t 119),.fadr (some 121) 3 (.t 10),.load (some 122) false 1 false (.t 121),.build (some 123) [(.int .i64 0),(.int .i64 0),(.str []),.nils,.nils] [(0,1,(.k (.int .i64 6))),(1,1,(.t 120)),(3,1,(.t 122))],.ecall (some 124) 131 (F 82) [(.t 118),(.t 123)]]⟩])
 (.seq (.ops false [⟨none,[.bin (some 126) .eql (.t 15) (.k (.int .i64 4)),.mov (some 125) (.t 126)]⟩]) <|
 .cond (.t 125)
 (.ops false [⟨none,[.mov (some 127) (.t 0),.mov (some 128) (.t 6),.len (some 129) true (.t 128),.ecall (some 130) 131 (F 91) [(.t 127),(.t 129)]]⟩])
 (.ops false [⟨none,[.mov (some 16) (.t 0),.mov (some 17) (.t 6),.ecall (some 18) 131 (F 86) [(.t 16),(.t 17)]]⟩]))))))))))
abbrev Is60 (P:Program) (F T:Nat→Nat):Prop:=Fn P (F 60) 131 [] (c60 F T)
def c61 (F T:Nat→Nat):C :=
 .block 0 <|
 .loop <|
 .seq (.seq (.ops false [⟨none,[.mov (some 4) (.t 0),.nchk (some 5) (.t 4),.fadr (some 6) 0 (.t 5),.load (some 7) false 1 false (.t 6),.len (some 8) false (.t 7),.bin (some 9) .sub (.t 8) (.k (.int .i64 1)),.mov (some 10) (.t 1),.bin (some 11) .gtr (.t 9) (.t 10)]⟩]) <|
 .cond (.t 11)
 (.skip)
 (.exit 0)) <|
 .block 1 <|
 .ops false [⟨none,[.mov (some 12) (.t 0),.ecall (some 13) 14 (F 92) [(.t 12)]]⟩]
abbrev Is61 (P:Program) (F T:Nat→Nat):Prop:=Fn P (F 61) 14 [] (c61 F T)
def c62 (F T:Nat→Nat):C :=
 .seq (.ops false [⟨none,[.alloc 2 (T 11) [(.int .i64 0),(.int .i64 0),(.int .i64 0),.nils,.nils]]⟩]) <|
 .seq (.ops true [⟨none,[.mov (some 3) (.t 0),.nchk (some 4) (.t 3),.fadr (some 5) 0 (.t 4),.load (some 6) false 1 false (.t 5),.mov (some 7) (.t 0),.nchk (some 8) (.t 7),.fadr (some 9) 0 (.t 8),.load (some 10) false 1 false (.t 9),.len (some 11) false (.t 10),.bin (some 12) .sub (.t 11) (.k (.int .i64 1)),.iadr (some 13) 5 (.t 6) (.t 12),.load (some 14) false 5 true (.t 13),.store 5 (.t 2) (.t 14)]⟩]) <|
 .ret
abbrev Is62 (P:Program) (F T:Nat→Nat):Prop:=Fn P (F 62) 15 [(2,(some (5,true)))] (c62 F T)
def c82 (F T:Nat→Nat):C :=
 .seq (.ops false [⟨none,[.box 3 (T 0) (.t 1)]⟩]) <|
 .seq (.ops false [⟨none,[.mov (some 7) (.t 0),.ecall (some 8) 48 (F 62) [(.t 7)],.alloc 4 (T 11) [(.int .i64 0),(.int .i64 0),(.int .i64 0),.nils,.nils],.store 5 (.t 4) (.t 8)]⟩]) <|
 .seqc (.seq (.ops false [⟨none,[.fadr (some 9) 0 (.t 4),.load (some 10) false 1 false (.t 9),.bin (some 11) .eql (.t 10) (.k (.int .i64 3)),.mov (some 12) (.t 11)]⟩,
 ⟨some (12,true),[.fadr (some 13) 4 (.t 4),.load (some 14) false 1 false (.t 13),.len (some 15) false (.t 14),.bin (some 16) .gtr (.t 15) (.k (.int .i64 0))]⟩,
 ⟨none,[.pick (some 17) (.t 12) (.t 16) (.k (.bool false))]⟩]) <|
 .cond (.t 17)
 (.gha .fz <| .seq (.ops false [⟨none,[.fadr (some 18) 4 (.t 4),.load (some 19) false 1 false (.t 18),.app 20 (T 1) 3 (.k .nils) (.t 19),.mov (some 5) (.t 20)]⟩]) <|
 .seq (.ops false [⟨none,[.mov (some 21) (.t 5),.mov (some 22) (.t 5),.len (some 23) false (.t 22),.bin (some 24) .sub (.t 23) (.k (.int .i64 1)),.iadr (some 25) 3 (.t 21) (.t 24),.load (some 26) false 3 true (.t 25),.alloc 6 (T 1) [(.bool false),.nils,.nils],.store 3 (.t 6) (.t 26)]⟩]) <|
 .seq (.ops false [⟨none,[.fadr (some 27) 2 (.t 6),.load (some 28) false 1 false (.t 27),.load (some 29) false 5 true (.t 3),.call (some 30) true (F 109) [(.t 28),(.t 29)],.fadr (some 31) 2 (.t 6),.store 1 (.t 31) (.t 30)]⟩]) <|
 .seq (.ops false [⟨none,[.mov (some 32) (.t 5),.mov (some 33) (.t 5),.len (some 34) false (.t 33),.bin (some 35) .sub (.t 34) (.k (.int .i64 1)),.load (some 36) false 3 true (.t 6),.iadr (some 37) 3 (.t 32) (.t 35),.store 3 (.t 37) (.t 36)]⟩]) <|
 .ops false [⟨none,[.mov (some 38) (.t 5),.fadr (some 39) 4 (.t 4),.store 1 (.t 39) (.t 38)]⟩])
 (.ops false [⟨none,[.fadr (some 40) 3 (.t 4),.load (some 41) false 1 false (.t 40),.load (some 42) false 5 true (.t 3),.call (some 43) true (F 109) [(.t 41),(.t 42)],.fadr (some 44) 3 (.t 4),.store 1 (.t 44) (.t 43)]⟩])) <|
 .ops false [⟨none,[.mov (some 45) (.t 0),.load (some 46) false 5 true (.t 4),.ecall (some 47) 48 (F 85) [(.t 45),(.t 46)]]⟩]
abbrev Is82 (P:Program) (F T:Nat→Nat):Prop:=Fn P (F 82) 48 [] (c82 F T)
def c83 (F T:Nat→Nat):C :=
 .seq (.gha (.frzb 4) <| .ops false [⟨none,[.box 4 (T 11) (.t 1)]⟩]) <|
 .seq (.seq (.ops false [⟨none,[.mov (some 6) (.t 0),.nchk (some 7) (.t 6),.fadr (some 8) 0 (.t 7),.load (some 9) false 1 false (.t 8),.len (some 10) false (.t 9),.bin (some 11) .sub (.t 10) (.k (.int .i64 1)),.bin (some 12) .geq (.t 11) (.k (.int .i64 20))]⟩]) <|
 .cond (.t 12)
 (.seq (.ops false [⟨none,[.mov (some 13) (.t 0),.mov (some 14) (.t 2),.ecall (some 15) 27 (F 86) [(.t 13),(.t 14)]]⟩]) <|
 .ret)
 (.skip)) <|
 .gha .fz <| .ops true [⟨none,[.mov (some 16) (.t 0),.mov (some 17) (.t 0),.nchk (some 18) (.t 17),.fadr (some 19) 0 (.t 18),.load (some 20) false 1 false (.t 19),.app 21 (T 11) 5 (.k .nils) (.t 20),.load (some 22) true 5 true (.t 4),.mkl (some 23) 5 [(.t 22)],.app 24 (T 11) 5 (.t 21) (.t 23),.nchk (some 25) (.t 16),.fadr (some 26) 0 (.t 25),.store 1 (.t 26) (.t 24)]⟩]
abbrev Is83 (P:Program) (F T:Nat→Nat):Prop:=Fn P (F 83) 27 [] (c83 F T)
def c85 (F T:Nat→Nat):C :=
 .seq (.gha (.frzb 3) <| .ops false [⟨none,[.box 3 (T 11) (.t 1)]⟩]) <|
 .gha .fz <| .ops true [⟨none,[.mov (some 4) (.t 0),.mov (some 5) (.t 0),.nchk (some 6) (.t 5),.fadr (some 7) 0 (.t 6),.load (some 8) false 1 false (.t 7),.mov (some 9) (.t 0),.nchk (some 10) (.t 9),.fadr (some 11) 0 (.t 10),.load (some 12) false 1 false (.t 11),.len (some 13) false (.t 12),.bin (some 14) .sub (.t 13) (.k (.int .i64 1)),.slc (some 15) 5 (.t 8) none (some (.t 14)),.app 16 (T 11) 5 (.k .nils) (.t 15),.load (some 17) true 5 true (.t 3),.mkl (some 18) 5 [(.t 17)],.app 19 (T 11) 5 (.t 16) (.t 18),.nchk (some 20) (.t 4),.fadr (some 21) 0 (.t 20),.store 1 (.t 21) (.t 19)]⟩]
abbrev Is85 (P:Program) (F T:Nat→Nat):Prop:=Fn P (F 85) 22 [] (c85 F T)
def c86 (F T:Nat→Nat):C :=
 .ops false [⟨none,[.mov (some 4) (.t 0),.mov (some 5) (.t 1),.build (some 6) [(.int .i64 0),(.int .i64 0),(.str []),.nils,.nils] [(0,1,(.k (.int .i64 1))),(2,1,(.t 5))],.ecall (some 7) 8 (F 82) [(.t 4),(.t 6)]]⟩]
abbrev Is86 (P:Program) (F T:Nat→Nat):Prop:=Fn P (F 86) 8 [] (c86 F T)
def c87 (F T:Nat→Nat):C :=
 .seq (.ops false [⟨none,[.mov (some 4) (.t 0),.ecall (some 5) 49 (F 62) [(.t 4)],.alloc 2 (T 11) [(.int .i64 0),(.int .i64 0),(.int .i64 0),.nils,.nils],.store 5 (.t 2) (.t 5)]⟩]) <|
 .seqc (.seq (.ops false [⟨none,[.fadr (some 6) 0 (.t 2),.load (some 7) false 1 false (.t 6),.bin (some 8) .neq (.t 7) (.k (.int .i64 3)),.mov (some 9) (.t 8)]⟩,
 ⟨some (9,false),[.fadr (some 10) 4 (.t 2),.load (some 11) false 1 false (.t 10),.len (some 12) false (.t 11),.bin (some 13) .eql (.t 12) (.k (.int .i64 0))]⟩,
 ⟨none,[.pick (some 14) (.t 9) (.k (.bool true)) (.t 13),.mov (some 15) (.t 14)]⟩,
 ⟨some (15,false),[.fadr (some 16) 4 (.t 2),.load (some 17) false 1 false (.t 16),.fadr (some 18) 4 (.t 2),.load (some 19) false 1 false (.t 18),.len (some 20) false (.t 19),.bin (some 21) .sub (.t 20) (.k (.int .i64 1)),.iadr (some 22) 3 (.t 17) (.t 21),.fadr (some 23) 0 (.t 22),.load (some 24) false 1 false (.t 23)]⟩,
 ⟨none,[.pick (some 25) (.t 15) (.k (.bool true)) (.t 24)]⟩]) <|
 .cond (.t 25)
 (.seq (.ops false [⟨none,[.mov (some 26) (.t 0),.ecall (some 27) 49 (F 86) [(.t 26),(.k (.str [61]))]]⟩]) <|
 .ret)
 (.skip)) <|
 .seq (.ops false [⟨none,[.fadr (some 28) 4 (.t 2),.load (some 29) false 1 false (.t 28),.app 30 (T 1) 3 (.k .nils) (.t 29),.mov (some 3) (.t 30)]⟩]) <|
 .seq (.ops false [⟨none,[.mov (some 31) (.t 3),.mov (some 32) (.t 3),.len (some 33) false (.t 32),.bin (some 34) .sub (.t 33) (.k (.int .i64 1)),.mov (some 35) (.t 3),.mov (some 36) (.t 3),.len (some 37) false (.t 36),.bin (some 38) .sub (.t 37) (.k (.int .i64 1)),.iadr (some 39) 3 (.t 35) (.t 38),.fadr (some 40) 2 (.t 39),.load (some 41) false 1 false (.t 40),.build (some 42) [(.bool false),.nils,.nils] [(0,1,(.k (.bool true))),(1,1,(.t 41))],.iadr (some 43) 3 (.t 31) (.t 34),.store 3 (.t 43) (.t 42)]⟩]) <|
 .seq (.gha .fz <| .ops false [⟨none,[.mov (some 44) (.t 3),.fadr (some 45) 4 (.t 2),.store 1 (.t 45) (.t 44)]⟩]) <|
 .ops false [⟨none,[.mov (some 46) (.t 0),.load (some 47) false 5 true (.t 2),.ecall (some 48) 49 (F 85) [(.t 46),(.t 47)]]⟩]
abbrev Is87 (P:Program) (F T:Nat→Nat):Prop:=Fn P (F 87) 49 [] (c87 F T)
def c88 (F T:Nat→Nat):C :=
 .seq (.ops false [⟨none,[.alloc 2 (T 11) [(.int .i64 0),(.int .i64 0),(.int .i64 0),.nils,.nils]]⟩]) <|
 .seq (.ops false [⟨none,[.mov (some 4) (.t 0),.ecall (some 5) 22 (F 62) [(.t 4)],.alloc 3 (T 11) [(.int .i64 0),(.int .i64 0),(.int .i64 0),.nils,.nils],.store 5 (.t 3) (.t 5)]⟩]) <|
 .seq (.gha .fz <| .ops true [⟨none,[.mov (some 6) (.t 0),.mov (some 7) (.t 0),.nchk (some 8) (.t 7),.fadr (some 9) 0 (.t 8),.load (some 10) false 1 false (.t 9),.mov (some 11) (.t 0),.nchk (some 12) (.t 11),.fadr (some 13) 0 (.t 12),.load (some 14) false 1 false (.t 13),.len (some 15) false (.t 14),.bin (some 16) .sub (.t 15) (.k (.int .i64 1)),.slc (some 17) 5 (.t 10) none (some (.t 16)),.app 18 (T 11) 5 (.k .nils) (.t 17),.nchk (some 19) (.t 6),.fadr (some 20) 0 (.t 19),.store 1 (.t 20) (.t 18)]⟩]) <|
 .seq (.ops false [⟨none,[.load (some 21) false 5 true (.t 3),.store 5 (.t 2) (.t 21)]⟩]) <|
 .ret
abbrev Is88 (P:Program) (F T:Nat→Nat):Prop:=Fn P (F 88) 22 [(2,(some (5,true)))] (c88 F T)
def c89 (F T:Nat→Nat):C :=
 .seq (.ops false [⟨none,[.mov (some 4) (.k (.int .i64 0))]⟩]) <|
 .block 0 <|
 .loop <|
 .seq (.seq (.ops false [⟨none,[.mov (some 5) (.t 4),.mov (some 6) (.t 1),.len (some 7) false (.t 6),.bin (some 8) .lss (.t 5) (.t 7)]⟩]) <|
 .cond (.t 8)
 (.skip)
 (.exit 0)) <|
 .seq (.block 1 <|
 .ops false [⟨none,[.mov (some 11) (.t 0),.mov (some 12) (.t 1),.mov (some 13) (.t 4),.iadr (some 14) 5 (.t 12) (.t 13),.load (some 15) false 5 true (.t 14),.ecall (some 16) 17 (F 82) [(.t 11),(.t 15)]]⟩]) <|
 .ops false [⟨none,[.mov (some 9) (.t 4),.bin (some 10) .add (.t 9) (.k (.int .i64 1)),.mov (some 4) (.t 10)]⟩]
abbrev Is89 (P:Program) (F T:Nat→Nat):Prop:=Fn P (F 89) 17 [] (c89 F T)
def c90 (F T:Nat→Nat):C :=
 .seq (.ops false [⟨none,[.mov (some 4) (.k (.int .i64 0))]⟩]) <|
 .seq (.seq (.ops false [⟨none,[.mov (some 6) (.t 0),.nchk (some 7) (.t 6),.fadr (some 8) 0 (.t 7),.load (some 9) false 1 false (.t 8),.len (some 10) false (.t 9),.bin (some 11) .sub (.t 10) (.k (.int .i64 1)),.mov (some 5) (.t 11)]⟩]) <|
 .block 0 <|
 .loop <|
 .seq (.seq (.ops false [⟨none,[.mov (some 12) (.t 5),.bin (some 13) .gtr (.t 12) (.k (.int .i64 0))]⟩]) <|
 .cond (.t 13)
 (.skip)
 (.exit 0)) <|
 .seq (.block 1 <|
 .seq (.ops false [⟨none,[.mov (some 16) (.t 0),.nchk (some 17) (.t 16),.fadr (some 18) 0 (.t 17),.load (some 19) false 1 false (.t 18),.mov (some 20) (.t 5),.iadr (some 21) 5 (.t 19) (.t 20),.fadr (some 22) 0 (.t 21),.load (some 23) false 1 false (.t 22),.bin (some 24) .eql (.t 23) (.k (.int .i64 2)),.mov (some 25) (.t 24)]⟩,
 ⟨some (25,true),[.mov (some 26) (.t 0),.nchk (some 27) (.t 26),.fadr (some 28) 0 (.t 27),.load (some 29) false 1 false (.t 28),.mov (some 30) (.t 5),.iadr (some 31) 5 (.t 29) (.t 30),.fadr (some 32) 1 (.t 31),.load (some 33) false 1 false (.t 32),.mov (some 34) (.t 1),.bin (some 35) .eql (.t 33) (.t 34)]⟩,
 ⟨none,[.pick (some 36) (.t 25) (.t 35) (.k (.bool false))]⟩]) <|
 .cond (.t 36)
 (.seq (.ops false [⟨none,[.mov (some 37) (.t 5),.mov (some 4) (.t 37)]⟩]) <|
 .ret)
 (.skip)) <|
 .ops false [⟨none,[.mov (some 14) (.t 5),.bin (some 15) .sub (.t 14) (.k (.int .i64 1)),.mov (some 5) (.t 15)]⟩]) <|
 .seq (.ops false [⟨none,[.mov (some 4) (.k (.int .i64 0))]⟩]) <|
 .ret
abbrev Is90 (P:Program) (F T:Nat→Nat):Prop:=Fn P (F 90) 38 [(4,none)] (c90 F T)
def c91 (F T:Nat→Nat):C :=
 .seq (.block 0 <|
 .loop <|
 .seq (.seq (.ops false [⟨none,[.mov (some 10) (.t 1),.bin (some 11) .geq (.t 10) (.k (.int .i64 2))]⟩]) <|
 .cond (.t 11)
 (.skip)
 (.exit 0)) <|
 .block 1 <|
 .seq (.ops false [⟨none,[.mov (some 12) (.t 0),.ecall (some 13) 68 (F 110) [(.t 12)],.mov (some 4) (.t 13)]⟩]) <|
 .seq (.seq (.ops false [⟨none,[.mov (some 14) (.t 4),.bin (some 15) .eql (.t 14) (.k (.int .i64 0))]⟩]) <|
 .cond (.t 15)
 (.exit 0)
 (.skip)) <|
 .seq (.ops false [⟨none,[.mov (some 16) (.t 0),.mov (some 17) (.t 4),.ecall (some 18) 68 (F 61) [(.t 16),(.t 17)]]⟩]) <|
 .seq (.ops false [⟨none,[.mov (some 19) (.t 0),.ecall (some 20) 68 (F 88) [(.t 19)],.alloc 5 (T 11) [(.int .i64 0),(.int .i64 0),(.int .i64 0),.nils,.nils],.store 5 (.t 5) (.t 20)]⟩]) <|
 .seq (.ops false [⟨none,[.mov (some 6) (.k (.int .i64 2)),.mov (some 7) (.k (.int .i64 4))]⟩]) <|
 .seqc (.seq (.ops false [⟨none,[.mov (some 21) (.t 1),.bin (some 22) .geq (.t 21) (.k (.int .i64 3)),.mov (some 23) (.t 22)]⟩,
 ⟨some (23,true),[.fadr (some 24) 2 (.t 5),.load (some 25) false 1 false (.t 24),.bin (some 26) .geq (.t 25) (.k (.int .i64 3))]⟩,
 ⟨none,[.pick (some 27) (.t 23) (.t 26) (.k (.bool false))]⟩]) <|
 .cond (.t 27)
 (.ops false [⟨none,[.mov (some 6) (.k (.int .i64 3)),.mov (some 7) (.k (.int .i64 5))]⟩])
 (.skip)) <|
 .seq (.gha (.frzb 8) <| .ops false [⟨none,[.mov (some 28) (.t 7),.fadr (some 29) 3 (.t 5),.load (some 30) false 1 false (.t 29),.fadr (some 31) 4 (.t 5),.load (some 32) false 1 false (.t 31),.build (some 33) [(.int .i64 0),(.int .i64 0),(.str []),.nils,.nils] [(0,1,(.t 28)),(3,1,(.t 30)),(4,1,(.t 32))],.alloc 8 (T 0) [(.int .i64 0),(.int .i64 0),(.str []),.nils,.nils],.store 5 (.t 8) (.t 33)]⟩]) <|
 .seq (.ops false [⟨none,[.mov (some 34) (.t 1),.mov (some 35) (.t 6),.bin (some 36) .sub (.t 34) (.t 35),.mov (some 1) (.t 36)]⟩]) <|
 .seq (.ops false [⟨none,[.fadr (some 37) 2 (.t 5),.load (some 38) false 1 false (.t 37),.mov (some 39) (.t 6),.bin (some 40) .sub (.t 38) (.t 39),.mov (some 9) (.t 40)]⟩]) <|
 .seq (.seq (.ops false [⟨none,[.mov (some 41) (.t 9),.bin (some 42) .geq (.t 41) (.k (.int .i64 2))]⟩]) <|
 .cond (.t 42)
 (.seq (.gha .fz <| .ops true [⟨none,[.mov (some 43) (.t 0),.mov (some 44) (.t 0),.nchk (some 45) (.t 44),.fadr (some 46) 0 (.t 45),.load (some 47) false 1 false (.t 46),.app 48 (T 11) 5 (.k .nils) (.t 47),.mov (some 49) (.t 9),.load (some 50) true 5 true (.t 8),.mkl (some 51) 5 [(.t 50)],.build (some 52) [(.int .i64 0),(.int .i64 0),(.int .i64 0),.nils,.nils] [(0,1,(.k (.int .i64 3))),(2,1,(.t 49)),(3,1,(.t 51))],.mkl (some 53) 5 [(.t 52)],.app 54 (T 11) 5 (.t 48) (.t 53),.nchk (some 55) (.t 43),.fadr (some 56) 0 (.t 55),.store 1 (.t 56) (.t 54)]⟩]) <|
 .exit 1)
 (.skip)) <|
 .seqc (.seq (.ops false [⟨none,[.mov (some 57) (.t 9),.bin (some 58) .eql (.t 57) (.k (.int .i64 1))]⟩]) <|
 .cond (.t 58)
 (.ops false [⟨none,[.mov (some 59) (.t 0),.ecall (some 60) 68 (F 86) [(.t 59),(.k (.str [123]))]]⟩])
 (.skip)) <|
 .ops false [⟨none,[.mov (some 61) (.t 0),.load (some 62) false 5 true (.t 8),.ecall (some 63) 68 (F 82) [(.t 61),(.t 62)]]⟩]) <|
 .ops false [⟨none,[.mov (some 64) (.t 0),.mov (some 65) (.t 1),.call (some 66) true (F 111) [(.t 65),(.k (.str [125]))],.ecall (some 67) 68 (F 86) [(.t 64),(.t 66)]]⟩]
abbrev Is91 (P:Program) (F T:Nat→Nat):Prop:=Fn P (F 91) 68 [] (c91 F T)
def c92 (F T:Nat→Nat):C :=
 .seq (.ops false [⟨none,[.mov (some 4) (.t 0),.ecall (some 5) 71 (F 88) [(.t 4)],.alloc 2 (T 11) [(.int .i64 0),(.int .i64 0),(.int .i64 0),.nils,.nils],.store 5 (.t 2) (.t 5)]⟩]) <|
 .seq (.ops false [⟨none,[.fadr (some 6) 0 (.t 2),.load (some 7) false 1 false (.t 6)]⟩]) <|
 .block 0 <|
 .seq (.ops false [⟨none,[.bin (some 9) .eql (.t 7) (.k (.int .i64 1)),.mov (some 8) (.t 9)]⟩]) <|
 .cond (.t 8)
 (.seq (.ops false [⟨none,[.mov (some 10) (.t 0),.ecall (some 11) 71 (F 86) [(.t 10),(.k (.str [91,91]))]]⟩]) <|
 .ops false [⟨none,[.mov (some 12) (.t 0),.fadr (some 13) 3 (.t 2),.load (some 14) false 1 false (.t 13),.ecall (some 15) 71 (F 89) [(.t 12),(.t 14)]]⟩])
 (.seq (.ops false [⟨none,[.bin (some 17) .eql (.t 7) (.k (.int .i64 2)),.mov (some 16) (.t 17)]⟩]) <|
 .cond (.t 16)
 (.seq (.ops false [⟨none,[.mov (some 18) (.t 0),.fadr (some 19) 1 (.t 2),.load (some 20) false 1 false (.t 19),.call (some 21) true (F 25) [(.t 20),(.k (.bool false))],.ecall (some 22) 71 (F 86) [(.t 18),(.t 21)]]⟩]) <|
 .ops false [⟨none,[.mov (some 23) (.t 0),.fadr (some 24) 3 (.t 2),.load (some 25) false 1 false (.t 24),.ecall (some 26) 71 (F 89) [(.t 23),(.t 25)]]⟩])
 (.seq (.ops false [⟨none,[.bin (some 28) .eql (.t 7) (.k (.int .i64 3)),.mov (some 27) (.t 28)]⟩]) <|
 .cond (.t 27)
 (.seq (.ops false [⟨none,[.mov (some 29) (.t 0),.fadr (some 30) 2 (.t 2),.load (some 31) false 1 false (.t 30),.call (some 32) true (F 111) [(.t 31),(.k (.str [123]))],.ecall (some 33) 71 (F 86) [(.t 29),(.t 32)]]⟩]) <|
 .seq (.ops false [⟨none,[.mov (some 34) (.t 0),.fadr (some 35) 3 (.t 2),.load (some 36) false 1 false (.t 35),.ecall (some 37) 71 (F 89) [(.t 34),(.t 36)]]⟩]) <|
 .seq (.ops false [⟨none,[.mov (some 3) (.k (.int .i64 0))]⟩]) <|
 .block 1 <|
 .loop <|
 .seq (.seq (.ops false [⟨none,[.mov (some 38) (.t 3),.fadr (some 39) 4 (.t 2),.load (some 40) false 1 false (.t 39),.len (some 41) false (.t 40),.bin (some 42) .lss (.t 38) (.t 41)]⟩]) <|
 .cond (.t 42)
 (.skip)
 (.exit 1)) <|
 .seqc (.block 2 <|
 .seq (.ops false [⟨none,[.mov (some 45) (.t 0),.ecall (some 46) 71 (F 86) [(.t 45),(.k (.str [124]))]]⟩]) <|
 .seqc (.seq (.ops false [⟨none,[.fadr (some 47) 4 (.t 2),.load (some 48) false 1 false (.t 47),.mov (some 49) (.t 3),.iadr (some 50) 3 (.t 48) (.t 49),.fadr (some 51) 0 (.t 50),.load (some 52) false 1 false (.t 51)]⟩]) <|
 .cond (.t 52)
 (.seq (.ops false [⟨none,[.mov (some 53) (.t 0),.fadr (some 54) 4 (.t 2),.load (some 55) false 1 false (.t 54),.mov (some 56) (.t 3),.iadr (some 57) 3 (.t 55) (.t 56),.fadr (some 58) 1 (.t 57),.load (some 59) false 1 false (.t 58),.ecall (some 60) 71 (F 89) [(.t 53),(.t 59)]]⟩]) <|
 .ops false [⟨none,[.mov (some 61) (.t 0),.ecall (some 62) 71 (F 86) [(.t 61),(.k (.str [61]))]]⟩])
 (.skip)) <|
 .ops false [⟨none,[.mov (some 63) (.t 0),.fadr (some 64) 4 (.t 2),.load (some 65) false 1 false (.t 64),.mov (some 66) (.t 3),.iadr (some 67) 3 (.t 65) (.t 66),.fadr (some 68) 2 (.t 67),.load (some 69) false 1 false (.t 68),.ecall (some 70) 71 (F 89) [(.t 63),(.t 69)]]⟩]) <|
 .ops false [⟨none,[.mov (some 43) (.t 3),.bin (some 44) .add (.t 43) (.k (.int .i64 1)),.mov (some 3) (.t 44)]⟩])
 (.skip)))
abbrev Is92 (P:Program) (F T:Nat→Nat):Prop:=Fn P (F 92) 71 [] (c92 F T)
def c109 (F T:Nat→Nat):C :=
 .seq (.ops false [⟨none,[.box 3 (T 0) (.t 1),.mov (some 4) (.k .nils)]⟩]) <|
 .seq (.ops false [⟨none,[.mov (some 6) (.t 0),.app 7 (T 0) 5 (.k .nils) (.t 6),.mov (some 5) (.t 7)]⟩]) <|
 .seqc (.seq (.ops false [⟨none,[.fadr (some 8) 0 (.t 3),.load (some 9) false 1 false (.t 8),.bin (some 10) .eql (.t 9) (.k (.int .i64 1))]⟩]) <|
 .cond (.t 10)
 (.seq (.seq (.ops false [⟨none,[.fadr (some 11) 2 (.t 3),.load (some 12) false 1 false (.t 11),.bin (some 13) .eql (.t 12) (.k (.str []))]⟩]) <|
 .cond (.t 13)
 (.seq (.ops false [⟨none,[.mov (some 14) (.t 5),.mov (some 4) (.t 14)]⟩]) <|
 .ret)
 (.skip)) <|
 .seq (.ops false [⟨none,[.mov (some 15) (.t 5),.len (some 16) false (.t 15),.bin (some 17) .gtr (.t 16) (.k (.int .i64 0)),.mov (some 18) (.t 17)]⟩,
 ⟨some (18,true),[.mov (some 19) (.t 5),.mov (some 20) (.t 5),.len (some 21) false (.t 20),.bin (some 22) .sub (.t 21) (.k (.int .i64 1)),.iadr (some 23) 5 (.t 19) (.t 22),.fadr (some 24) 0 (.t 23),.load (some 25) false 1 false (.t 24),.bin (some 26) .eql (.t 25) (.k (.int .i64 1))]⟩,
 ⟨none,[.pick (some 27) (.t 18) (.t 26) (.k (.bool false))]⟩]) <|
 .cond (.t 27)
 (.seq (.ops true [⟨none,[.mov (some 28) (.t 5),.mov (some 29) (.t 5),.len (some 30) false (.t 29),.bin (some 31) .sub (.t 30) (.k (.int .i64 1)),.mov (some 32) (.t 5),.mov (some 33) (.t 5),.len (some 34) false (.t 33),.bin (some 35) .sub (.t 34) (.k (.int .i64 1)),.iadr (some 36) 5 (.t 32) (.t 35),.fadr (some 37) 2 (.t 36),.load (some 38) false 1 false (.t 37),.fadr (some 39) 2 (.t 3),.load (some 40) false 1 false (.t 39),.bin (some 41) .add (.t 38) (.t 40),.build (some 42) [(.int .i64 0),(.int .i64 0),(.str []),.nils,.nils] [(0,1,(.k (.int .i64 1))),(2,1,(.t 41))],.iadr (some 43) 5 (.t 28) (.t 31),.store 5 (.t 43) (.t 42)]⟩]) <|
 .seq (.ops false [⟨none,[.mov (some 44) (.t 5),.mov (some 4) (.t 44)]⟩]) <|
 .ret)
 (.skip))
 (.skip)) <|
 .seq (.ops false [⟨none,[.mov (some 45) (.t 5),.load (some 46) false 5 true (.t 3),.mkl (some 47) 5 [(.t 46)],.app 48 (T 0) 5 (.t 45) (.t 47),.mov (some 4) (.t 48)]⟩]) <|
 .ret
abbrev Is109 (P:Program) (F T:Nat→Nat):Prop:=Fn P (F 109) 49 [(4,none)] (c109 F T)
def c110 (F T:Nat→Nat):C :=
 .seq (.ops false [⟨none,[.mov (some 2) (.k (.int .i64 0))]⟩]) <|
 .seq (.seq (.ops false [⟨none,[.mov (some 4) (.t 0),.nchk (some 5) (.t 4),.fadr (some 6) 0 (.t 5),.load (some 7) false 1 false (.t 6),.len (some 8) false (.t 7),.bin (some 9) .sub (.t 8) (.k (.int .i64 1)),.mov (some 3) (.t 9)]⟩]) <|
 .block 0 <|
 .loop <|
 .seq (.seq (.ops false [⟨none,[.mov (some 10) (.t 3),.bin (some 11) .gtr (.t 10) (.k (.int .i64 0)),.mov (some 12) (.t 11)]⟩,
 ⟨some (12,true),[.mov (some 13) (.t 0),.nchk (some 14) (.t 13),.fadr (some 15) 0 (.t 14),.load (some 16) false 1 false (.t 15),.mov (some 17) (.t 3),.iadr (some 18) 5 (.t 16) (.t 17),.fadr (some 19) 0 (.t 18),.load (some 20) false 1 false (.t 19),.bin (some 21) .neq (.t 20) (.k (.int .i64 2))]⟩,
 ⟨none,[.pick (some 22) (.t 12) (.t 21) (.k (.bool false))]⟩]) <|
 .cond (.t 22)
 (.skip)
 (.exit 0)) <|
 .seq (.block 1 <|
 .seq (.ops false [⟨none,[.mov (some 25) (.t 0),.nchk (some 26) (.t 25),.fadr (some 27) 0 (.t 26),.load (some 28) false 1 false (.t 27),.mov (some 29) (.t 3),.iadr (some 30) 5 (.t 28) (.t 29),.fadr (some 31) 0 (.t 30),.load (some 32) false 1 false (.t 31),.bin (some 33) .eql (.t 32) (.k (.int .i64 3))]⟩]) <|
 .cond (.t 33)
 (.seq (.ops false [⟨none,[.mov (some 34) (.t 3),.mov (some 2) (.t 34)]⟩]) <|
 .ret)
 (.skip)) <|
 .ops false [⟨none,[.mov (some 23) (.t 3),.bin (some 24) .sub (.t 23) (.k (.int .i64 1)),.mov (some 3) (.t 24)]⟩]) <|
 .seq (.ops false [⟨none,[.mov (some 2) (.k (.int .i64 0))]⟩]) <|
 .ret
abbrev Is110 (P:Program) (F T:Nat→Nat):Prop:=Fn P (F 110) 35 [(2,none)] (c110 F T)
def c111 (F T:Nat→Nat):C :=
 .seq (.ops false [⟨none,[.mov (some 4) (.k (.str []))]⟩]) <|
 .seq (.ops false [⟨none,[.mov (some 5) (.k (.str []))]⟩]) <|
 .seq (.seq (.ops false [⟨none,[.mov (some 6) (.k (.int .i64 0))]⟩]) <|
 .block 0 <|
 .loop <|
 .seq (.seq (.ops false [⟨none,[.mov (some 7) (.t 6),.mov (some 8) (.t 0),.bin (some 9) .lss (.t 7) (.t 8)]⟩]) <|
 .cond (.t 9)
 (.skip)
 (.exit 0)) <|
 .seq (.block 1 <|
 .ops false [⟨none,[.mov (some 12) (.t 5),.mov (some 13) (.t 1),.bin (some 14) .add (.t 12) (.t 13),.mov (some 5) (.t 14)]⟩]) <|
 .ops false [⟨none,[.mov (some 10) (.t 6),.bin (some 11) .add (.t 10) (.k (.int .i64 1)),.mov (some 6) (.t 11)]⟩]) <|
 .seq (.ops false [⟨none,[.mov (some 15) (.t 5),.mov (some 4) (.t 15)]⟩]) <|
 .ret
abbrev Is111 (P:Program) (F T:Nat→Nat):Prop:=Fn P (F 111) 16 [(4,none)] (c111 F T)
end Go.Ab
