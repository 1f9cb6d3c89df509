/- Lowered code of the functions, by program. No condition. -/
import Derived.Test.YtcmnepgnkcoiiaaGreatDoorAbG12
set_option linter.unusedVariables false
namespace Go.Ab
def c207 (F T:Nat→Nat):C :=
 .seq (.ops false [⟨none,[.alloc 2 (T 16) [.nils,.nils,.nils]]⟩]) <|
 .seq (.gha .fz <| .ops false [⟨none,[.alloc 3 (T 16) [.nils,.nils,.nils]]⟩]) <|
 .seq (.ops false [⟨none,[.mkl (some 15) 1 [(.k (.str [115,116,97,102,102])),(.k (.str [109,111,100,115])),(.k (.str [103,111,108,100]))],.mov (some 4) (.t 15)]⟩]) <|
 .seq (.ops false [⟨none,[.mov (some 16) (.t 0),.ecall (some 17) 138 (F 46) [(.t 16),(.k (.int .i64 4))],.mov (some 5) (.t 17)]⟩]) <|
 .seqc (.seq (.ops false [⟨none,[.mov (some 6) (.k (.int .i64 0))]⟩]) <|
 .block 0 <|
 .loop <|
 .seq (.seq (.ops false [⟨none,[.mov (some 18) (.t 6),.mov (some 19) (.t 5),.bin (some 20) .lss (.t 18) (.t 19)]⟩]) <|
 .cond (.t 20)
 (.skip)
 (.exit 0)) <|
 .seq (.block 1 <|
 .seq (.gha .fz <| .ops false [⟨none,[.mov (some 23) (.t 4),.mov (some 24) (.t 6),.iadr (some 25) 1 (.t 23) (.t 24),.load (some 26) false 1 false (.t 25),.build (some 27) [(.str []),.nils] [(0,1,(.t 26))],.alloc 7 (T 22) [(.str []),.nils],.store 2 (.t 7) (.t 27)]⟩]) <|
 .seqc (.seq (.ops false [⟨none,[.mov (some 8) (.k (.int .i64 0))]⟩]) <|
 .block 2 <|
 .loop <|
 .seq (.seq (.ops false [⟨none,[.mov (some 28) (.t 8),.mov (some 29) (.t 0),.ecall (some 30) 138 (F 46) [(.t 29),(.k (.int .i64 3))],.bin (some 31) .lss (.t 28) (.t 30)]⟩]) <|
 .cond (.t 31)
 (.skip)
 (.exit 2)) <|
 .seq (.block 3 <|
 .seq (.ops false [⟨none,[.mov (some 34) (.t 0),.ecall (some 35) 138 (F 221) [(.t 34)],.mov (some 9) (.t 35)]⟩]) <|
 .seqc (.seq (.ops false [⟨none,[.mov (some 36) (.t 0),.ecall (some 37) 138 (F 46) [(.t 36),(.k (.int .i64 3))],.bin (some 38) .eql (.t 37) (.k (.int .i64 0))]⟩]) <|
 .cond (.t 38)
 (.ops false [⟨none,[.mov (some 39) (.t 4),.mov (some 40) (.t 0),.mov (some 41) (.t 5),.ecall (some 42) 138 (F 46) [(.t 40),(.t 41)],.iadr (some 43) 1 (.t 39) (.t 42),.load (some 44) false 1 false (.t 43),.bin (some 45) .add (.k (.str [64])) (.t 44),.mov (some 9) (.t 45)]⟩])
 (.skip)) <|
 .seqc (.seq (.ops false [⟨none,[.mov (some 46) (.t 0),.ecall (some 47) 138 (F 46) [(.t 46),(.k (.int .i64 9))],.bin (some 48) .eql (.t 47) (.k (.int .i64 0))]⟩]) <|
 .cond (.t 48)
 (.ops false [⟨none,[.mov (some 9) (.k (.str [64,117,115,101,114,115]))]⟩])
 (.skip)) <|
 .gha .fz <| .ops false [⟨none,[.fadr (some 49) 1 (.t 7),.load (some 50) false 1 false (.t 49),.appl 51 (T 21) 1 (.t 50),.mov (some 52) (.t 9),.mkl (some 53) 1 [(.t 52)],.app 54 (T 21) 1 (.t 51) (.t 53),.fadr (some 55) 1 (.t 7),.store 1 (.t 55) (.t 54)]⟩]) <|
 .ops false [⟨none,[.mov (some 32) (.t 8),.bin (some 33) .add (.t 32) (.k (.int .i64 1)),.mov (some 8) (.t 33)]⟩]) <|
 .gha .fz <| .ops true [⟨none,[.fadr (some 56) 0 (.t 3),.load (some 57) false 1 false (.t 56),.appl 58 (T 22) 2 (.t 57),.load (some 59) false 2 true (.t 7),.mkl (some 60) 2 [(.t 59)],.app 61 (T 22) 2 (.t 58) (.t 60),.fadr (some 62) 0 (.t 3),.store 1 (.t 62) (.t 61)]⟩]) <|
 .ops false [⟨none,[.mov (some 21) (.t 6),.bin (some 22) .add (.t 21) (.k (.int .i64 1)),.mov (some 6) (.t 22)]⟩]) <|
 .seq (.gha (.frz 10) <| .ops false [⟨none,[.mkv 63 (T 21) 1 [(.k (.str [97,108,108])),(.k (.str [117,115,101,114,115]))],.mov (some 64) (.t 4),.mov (some 65) (.t 5),.slc (some 66) 1 (.t 64) none (some (.t 65)),.app 67 (T 21) 1 (.t 63) (.t 66),.mov (some 10) (.t 67)]⟩]) <|
 .seq (.ops false [⟨none,[.build (some 68) [(.int .i64 0),(.int .i64 0),(.str [])] [(0,1,(.k (.int .i64 1)))],.build (some 69) [(.bool false),(.int .i64 0),(.str []),(.int .i64 0),(.int .i64 0),(.str [])] [(0,1,(.k (.bool true))),(1,1,(.k (.int .i64 1))),(2,1,(.k (.str [97,108,108]))),(3,3,(.t 68))],.mkl (some 70) 6 [(.t 69)],.fadr (some 71) 1 (.t 3),.store 1 (.t 71) (.t 70)]⟩]) <|
 .seqc (.seq (.ops false [⟨none,[.mov (some 11) (.k (.int .i64 0))]⟩]) <|
 .block 4 <|
 .loop <|
 .seq (.seq (.ops false [⟨none,[.mov (some 72) (.t 11),.mov (some 73) (.t 0),.ecall (some 74) 138 (F 46) [(.t 73),(.k (.int .i64 7))],.bin (some 75) .lss (.t 72) (.t 74)]⟩]) <|
 .cond (.t 75)
 (.skip)
 (.exit 4)) <|
 .seq (.block 5 <|
 .seq (.ops false [⟨none,[.mov (some 78) (.t 0),.ecall (some 79) 138 (F 46) [(.t 78),(.k (.int .i64 3))],.bin (some 80) .gtr (.t 79) (.k (.int .i64 0)),.mov (some 81) (.t 0),.ecall (some 82) 138 (F 46) [(.t 81),(.k (.int .i64 5))],.bin (some 83) .add (.k (.int .i64 1)) (.t 82),.mov (some 84) (.t 0),.mov (some 85) (.t 10),.ecall (some 86) 138 (F 47) [(.t 84),(.t 85)],.build (some 87) [(.bool false),(.int .i64 0),(.str []),(.int .i64 0),(.int .i64 0),(.str [])] [(0,1,(.t 80)),(1,1,(.t 83)),(2,1,(.t 86))],.alloc 12 (T 19) [(.bool false),(.int .i64 0),(.str []),(.int .i64 0),(.int .i64 0),(.str [])],.store 6 (.t 12) (.t 87)]⟩]) <|
 .seqc (.seq (.ops false [⟨none,[.mov (some 88) (.t 0),.ecall (some 89) 138 (F 46) [(.t 88),(.k (.int .i64 3))]]⟩]) <|
 .block 6 <|
 .seq (.ops false [⟨none,[.bin (some 95) .eql (.t 89) (.k (.int .i64 0)),.mov (some 94) (.t 95)]⟩]) <|
 .cond (.t 94)
 (.ops false [⟨none,[.build (some 96) [(.int .i64 0),(.int .i64 0),(.str [])] [(0,1,(.k (.int .i64 1)))],.fadr (some 97) 3 (.t 12),.store 3 (.t 97) (.t 96)]⟩])
 (.seq (.ops false [⟨none,[.bin (some 99) .eql (.t 89) (.k (.int .i64 1)),.mov (some 98) (.t 99)]⟩]) <|
 .cond (.t 98)
 (.ops false [⟨none,[.mov (some 100) (.t 0),.ecall (some 101) 138 (F 46) [(.t 100),(.k (.int .i64 6))],.build (some 102) [(.int .i64 0),(.str [])] [(0,1,(.t 101))],.build (some 103) [(.int .i64 0),(.int .i64 0),(.str [])] [(0,1,(.k (.int .i64 2))),(1,2,(.t 102))],.fadr (some 104) 3 (.t 12),.store 3 (.t 104) (.t 103)]⟩])
 (.ops false [⟨none,[.mov (some 90) (.t 0),.ecall (some 91) 138 (F 213) [(.t 90)],.build (some 92) [(.int .i64 0),(.int .i64 0),(.str [])] [(0,1,(.k (.int .i64 3))),(1,2,(.t 91))],.fadr (some 93) 3 (.t 12),.store 3 (.t 93) (.t 92)]⟩]))) <|
 .gha .fz <| .ops true [⟨none,[.fadr (some 105) 1 (.t 3),.load (some 106) false 1 false (.t 105),.appl 107 (T 19) 6 (.t 106),.load (some 108) false 6 true (.t 12),.mkl (some 109) 6 [(.t 108)],.app 110 (T 19) 6 (.t 107) (.t 109),.fadr (some 111) 1 (.t 3),.store 1 (.t 111) (.t 110)]⟩]) <|
 .ops false [⟨none,[.mov (some 76) (.t 11),.bin (some 77) .add (.t 76) (.k (.int .i64 1)),.mov (some 11) (.t 77)]⟩]) <|
 .seqc (.seq (.ops false [⟨none,[.mov (some 13) (.k (.int .i64 0))]⟩]) <|
 .block 7 <|
 .loop <|
 .seq (.seq (.ops false [⟨none,[.mov (some 112) (.t 13),.mov (some 113) (.t 0),.ecall (some 114) 138 (F 46) [(.t 113),(.k (.int .i64 4))],.bin (some 115) .lss (.t 112) (.t 114)]⟩]) <|
 .cond (.t 115)
 (.skip)
 (.exit 7)) <|
 .seq (.block 8 <|
 .seq (.ops false [⟨none,[.mov (some 118) (.t 0),.ecall (some 119) 138 (F 46) [(.t 118),(.k (.int .i64 3))],.bin (some 120) .eql (.t 119) (.k (.int .i64 0)),.mov (some 121) (.t 0),.mov (some 122) (.t 10),.ecall (some 123) 138 (F 47) [(.t 121),(.t 122)],.mov (some 124) (.t 0),.ecall (some 125) 138 (F 213) [(.t 124)],.mov (some 126) (.t 0),.mkl (some 127) 1 [(.k (.str [])),(.k (.str [115])),(.k (.str [116])),(.k (.str [97,32,98]))],.ecall (some 128) 138 (F 47) [(.t 126),(.t 127)],.build (some 129) [(.bool false),(.str []),(.int .i64 0),(.str []),(.str [])] [(0,1,(.t 120)),(1,1,(.t 123)),(2,2,(.t 125)),(4,1,(.t 128))],.alloc 14 (T 20) [(.bool false),(.str []),(.int .i64 0),(.str []),(.str [])],.store 5 (.t 14) (.t 129)]⟩]) <|
 .gha .fz <| .ops true [⟨none,[.fadr (some 130) 2 (.t 3),.load (some 131) false 1 false (.t 130),.appl 132 (T 20) 5 (.t 131),.load (some 133) false 5 true (.t 14),.mkl (some 134) 5 [(.t 133)],.app 135 (T 20) 5 (.t 132) (.t 134),.fadr (some 136) 2 (.t 3),.store 1 (.t 136) (.t 135)]⟩]) <|
 .ops false [⟨none,[.mov (some 116) (.t 13),.bin (some 117) .add (.t 116) (.k (.int .i64 1)),.mov (some 13) (.t 117)]⟩]) <|
 .seq (.ops false [⟨none,[.load (some 137) false 3 true (.t 3),.store 3 (.t 2) (.t 137)]⟩]) <|
 .ret
abbrev Is207 (P:Program) (F T:Nat→Nat):Prop:=Fn P (F 207) 138 [(2,(some (3,true)))] (c207 F T)
def c208 (F T:Nat→Nat):C :=
 .seq (.ops false [⟨none,[.mov (some 2) (.k (.str []))]⟩]) <|
 .seq (.ops false [⟨none,[.mov (some 3) (.t 0),.mkl (some 4) 1 [(.k (.str [97,110,110])),(.k (.str [98,111,98])),(.k (.str [])),(.k (.str [122,111,101]))],.ecall (some 5) 6 (F 47) [(.t 3),(.t 4)],.mov (some 2) (.t 5)]⟩]) <|
 .ret
abbrev Is208 (P:Program) (F T:Nat→Nat):Prop:=Fn P (F 208) 6 [(2,none)] (c208 F T)
def c213 (F T:Nat→Nat):C :=
 .seq (.ops false [⟨none,[.alloc 2 (T 17) [(.int .i64 0),(.str [])]]⟩]) <|
 .seq (.ops false [⟨none,[.mov (some 3) (.t 0),.ecall (some 4) 9 (F 46) [(.t 3),(.k (.int .i64 6))],.mov (some 5) (.t 0),.mkl (some 6) 1 [(.k (.str [65])),(.k (.str [66])),(.k (.str [65,47,66])),(.k (.str [67])),(.k (.str [84])),(.k (.str [85,47,120])),(.k (.str [65,47,66,47,99])),(.k (.str [76,111,110,103,32,110,97,109,101])),(.k (.str [49])),(.k (.str [88]))],.ecall (some 7) 9 (F 47) [(.t 5),(.t 6)],.build (some 8) [(.int .i64 0),(.str [])] [(0,1,(.t 4)),(1,1,(.t 7))],.store 2 (.t 2) (.t 8)]⟩]) <|
 .ret
abbrev Is213 (P:Program) (F T:Nat→Nat):Prop:=Fn P (F 213) 9 [(2,(some (2,true)))] (c213 F T)
def c221 (F T:Nat→Nat):C :=
 .seq (.ops false [⟨none,[.mov (some 2) (.k (.str []))]⟩]) <|
 .seq (.ops false [⟨none,[.mov (some 3) (.t 0),.mkl (some 4) 1 [(.k (.str [97,110,110])),(.k (.str [98,111,98])),(.k (.str [115,116,97,102,102])),(.k (.str [109,111,100,115])),(.k (.str [122,111,101]))],.ecall (some 5) 6 (F 47) [(.t 3),(.t 4)],.mov (some 2) (.t 5)]⟩]) <|
 .ret
abbrev Is221 (P:Program) (F T:Nat→Nat):Prop:=Fn P (F 221) 6 [(2,none)] (c221 F T)
def c217 (F T:Nat→Nat):C :=
 .seq (.ops false [⟨none,[.mov (some 2) (.k (.bool false))]⟩]) <|
 .seq (.seq (.ops false [⟨none,[.mov (some 5) (.t 0),.len (some 6) true (.t 5),.bin (some 7) .lss (.t 6) (.k (.int .i64 1)),.mov (some 8) (.t 7)]⟩,
 ⟨some (8,false),[.mov (some 9) (.t 0),.len (some 10) true (.t 9),.bin (some 11) .gtr (.t 10) (.k (.int .i64 30))]⟩,
 ⟨none,[.pick (some 12) (.t 8) (.k (.bool true)) (.t 11),.mov (some 13) (.t 12)]⟩,
 ⟨some (13,false),[.mov (some 14) (.t 0),.idx (some 15) (.t 14) (.k (.int .i64 0)),.bin (some 16) .lss (.t 15) (.k (.int .u8 97))]⟩,
 ⟨none,[.pick (some 17) (.t 13) (.k (.bool true)) (.t 16),.mov (some 18) (.t 17)]⟩,
 ⟨some (18,false),[.mov (some 19) (.t 0),.idx (some 20) (.t 19) (.k (.int .i64 0)),.bin (some 21) .gtr (.t 20) (.k (.int .u8 122))]⟩,
 ⟨none,[.pick (some 22) (.t 18) (.k (.bool true)) (.t 21)]⟩]) <|
 .cond (.t 22)
 (.seq (.ops false [⟨none,[.mov (some 2) (.k (.bool false))]⟩]) <|
 .ret)
 (.skip)) <|
 .seq (.seq (.ops false [⟨none,[.mov (some 3) (.k (.int .i64 0))]⟩]) <|
 .block 0 <|
 .loop <|
 .seq (.seq (.ops false [⟨none,[.mov (some 23) (.t 3),.mov (some 24) (.t 0),.len (some 25) true (.t 24),.bin (some 26) .lss (.t 23) (.t 25)]⟩]) <|
 .cond (.t 26)
 (.skip)
 (.exit 0)) <|
 .seq (.block 1 <|
 .seq (.ops false [⟨none,[.mov (some 29) (.t 0),.mov (some 30) (.t 3),.idx (some 31) (.t 29) (.t 30),.mov (some 4) (.t 31)]⟩]) <|
 .seq (.ops false [⟨none,[.mov (some 32) (.t 4),.bin (some 33) .lss (.t 32) (.k (.int .u8 97)),.mov (some 34) (.t 33)]⟩,
 ⟨some (34,false),[.mov (some 35) (.t 4),.bin (some 36) .gtr (.t 35) (.k (.int .u8 122))]⟩,
 ⟨none,[.pick (some 37) (.t 34) (.k (.bool true)) (.t 36),.mov (some 38) (.t 37)]⟩,
 ⟨some (38,true),[.mov (some 39) (.t 4),.bin (some 40) .lss (.t 39) (.k (.int .u8 48)),.mov (some 41) (.t 40)]⟩,
 ⟨some (41,false),[.mov (some 42) (.t 4),.bin (some 43) .gtr (.t 42) (.k (.int .u8 57))]⟩,
 ⟨some (38,true),[.pick (some 44) (.t 41) (.k (.bool true)) (.t 43)]⟩,
 ⟨none,[.pick (some 45) (.t 38) (.t 44) (.k (.bool false)),.mov (some 46) (.t 45)]⟩,
 ⟨some (46,true),[.mov (some 47) (.t 4),.bin (some 48) .neq (.t 47) (.k (.int .u8 45))]⟩,
 ⟨none,[.pick (some 49) (.t 46) (.t 48) (.k (.bool false)),.mov (some 50) (.t 49)]⟩,
 ⟨some (50,true),[.mov (some 51) (.t 4),.bin (some 52) .neq (.t 51) (.k (.int .u8 95))]⟩,
 ⟨none,[.pick (some 53) (.t 50) (.t 52) (.k (.bool false))]⟩]) <|
 .cond (.t 53)
 (.seq (.ops false [⟨none,[.mov (some 2) (.k (.bool false))]⟩]) <|
 .ret)
 (.skip)) <|
 .ops false [⟨none,[.mov (some 27) (.t 3),.bin (some 28) .add (.t 27) (.k (.int .i64 1)),.mov (some 3) (.t 28)]⟩]) <|
 .seq (.ops false [⟨none,[.mov (some 2) (.k (.bool true))]⟩]) <|
 .ret
abbrev Is217 (P:Program) (F T:Nat→Nat):Prop:=Fn P (F 217) 54 [(2,none)] (c217 F T)
def c218 (F T:Nat→Nat):C :=
 .seq (.ops false [⟨none,[.mov (some 4) (.k .nils)]⟩]) <|
 .seq (.ops false [⟨none,[.mov (some 5) (.k (.int .i64 0))]⟩]) <|
 .seq (.block 0 <|
 .loop <|
 .seq (.seq (.ops false [⟨none,[.mov (some 6) (.t 5),.mov (some 7) (.t 0),.len (some 8) false (.t 7),.bin (some 9) .lss (.t 6) (.t 8),.mov (some 10) (.t 9)]⟩,
 ⟨some (10,true),[.mov (some 11) (.t 0),.mov (some 12) (.t 5),.iadr (some 13) 1 (.t 11) (.t 12),.load (some 14) false 1 false (.t 13),.mov (some 15) (.t 1),.bin (some 16) .lss (.t 14) (.t 15)]⟩,
 ⟨none,[.pick (some 17) (.t 10) (.t 16) (.k (.bool false))]⟩]) <|
 .cond (.t 17)
 (.skip)
 (.exit 0)) <|
 .block 1 <|
 .ops false [⟨none,[.mov (some 18) (.t 5),.bin (some 19) .add (.t 18) (.k (.int .i64 1)),.mov (some 5) (.t 19)]⟩]) <|
 .seq (.seq (.ops false [⟨none,[.mov (some 20) (.t 5),.mov (some 21) (.t 0),.len (some 22) false (.t 21),.bin (some 23) .lss (.t 20) (.t 22),.mov (some 24) (.t 23)]⟩,
 ⟨some (24,true),[.mov (some 25) (.t 0),.mov (some 26) (.t 5),.iadr (some 27) 1 (.t 25) (.t 26),.load (some 28) false 1 false (.t 27),.mov (some 29) (.t 1),.bin (some 30) .eql (.t 28) (.t 29)]⟩,
 ⟨none,[.pick (some 31) (.t 24) (.t 30) (.k (.bool false))]⟩]) <|
 .cond (.t 31)
 (.seq (.ops false [⟨none,[.mov (some 32) (.t 0),.mov (some 4) (.t 32)]⟩]) <|
 .ret)
 (.skip)) <|
 .seq (.ops true [⟨none,[.mov (some 33) (.t 0),.mov (some 34) (.t 5),.slc (some 35) 1 (.t 33) none (some (.t 34)),.app 36 (T 21) 1 (.k .nils) (.t 35),.mov (some 37) (.t 1),.mkl (some 38) 1 [(.t 37)],.app 39 (T 21) 1 (.t 36) (.t 38),.mov (some 40) (.t 0),.mov (some 41) (.t 5),.slc (some 42) 1 (.t 40) (some (.t 41)) none,.app 43 (T 21) 1 (.t 39) (.t 42),.mov (some 4) (.t 43)]⟩]) <|
 .ret
abbrev Is218 (P:Program) (F T:Nat→Nat):Prop:=Fn P (F 218) 44 [(4,none)] (c218 F T)
def c219 (F T:Nat→Nat):C :=
 .seq (.ops false [⟨none,[.box 3 (T 22) (.t 0),.mov (some 6) (.k (.bool false))]⟩]) <|
 .seq (.seq (.ops false [⟨none,[.mov (some 7) (.k (.int .i64 0))]⟩]) <|
 .block 0 <|
 .loop <|
 .seq (.seq (.ops false [⟨none,[.mov (some 9) (.t 7),.fadr (some 10) 1 (.t 3),.load (some 11) false 1 false (.t 10),.len (some 12) false (.t 11),.bin (some 13) .lss (.t 9) (.t 12)]⟩]) <|
 .cond (.t 13)
 (.skip)
 (.exit 0)) <|
 .seq (.block 1 <|
 .seq (.ops false [⟨none,[.fadr (some 16) 1 (.t 3),.load (some 17) false 1 false (.t 16),.mov (some 18) (.t 7),.iadr (some 19) 1 (.t 17) (.t 18),.load (some 20) false 1 false (.t 19),.mov (some 8) (.t 20)]⟩]) <|
 .seq (.ops false [⟨none,[.mov (some 21) (.t 1),.call (some 22) true (F 217) [(.t 21)],.mov (some 23) (.t 22)]⟩,
 ⟨some (23,true),[.mov (some 24) (.t 8),.mov (some 25) (.t 1),.bin (some 26) .eql (.t 24) (.t 25)]⟩,
 ⟨none,[.pick (some 27) (.t 23) (.t 26) (.k (.bool false)),.mov (some 28) (.t 27)]⟩,
 ⟨some (28,false),[.mov (some 29) (.t 8),.len (some 30) true (.t 29),.bin (some 31) .gtr (.t 30) (.k (.int .i64 0)),.mov (some 32) (.t 31)]⟩,
 ⟨some (32,true),[.mov (some 33) (.t 8),.idx (some 34) (.t 33) (.k (.int .i64 0)),.bin (some 35) .eql (.t 34) (.k (.int .u8 64))]⟩,
 ⟨some (28,false),[.pick (some 36) (.t 32) (.t 35) (.k (.bool false)),.mov (some 37) (.t 36)]⟩,
 ⟨some (37,true),[.mov (some 38) (.t 2),.mov (some 39) (.t 8),.slcS (some 40) (.t 39) (some (.k (.int .i64 1))) none,.call (some 41) true (F 193) [(.t 38),(.t 40)]]⟩,
 ⟨some (28,false),[.pick (some 42) (.t 37) (.t 41) (.k (.bool false))]⟩,
 ⟨none,[.pick (some 43) (.t 28) (.k (.bool true)) (.t 42)]⟩]) <|
 .cond (.t 43)
 (.seq (.ops false [⟨none,[.mov (some 6) (.k (.bool true))]⟩]) <|
 .ret)
 (.skip)) <|
 .ops false [⟨none,[.mov (some 14) (.t 7),.bin (some 15) .add (.t 14) (.k (.int .i64 1)),.mov (some 7) (.t 15)]⟩]) <|
 .seq (.ops false [⟨none,[.mov (some 6) (.k (.bool false))]⟩]) <|
 .ret
abbrev Is219 (P:Program) (F T:Nat→Nat):Prop:=Fn P (F 219) 44 [(6,none)] (c219 F T)
def c209 (F T:Nat→Nat):C :=
 .seq (.ops false [⟨none,[.box 2 (T 16) (.t 0),.mov (some 4) (.k .nils)]⟩]) <|
 .seq (.ops false [⟨none,[.mkl (some 8) 1 [(.k (.str [97,108,108]))],.mov (some 5) (.t 8)]⟩]) <|
 .seqc (.seq (.ops false [⟨none,[.mov (some 9) (.t 1),.call (some 10) true (F 217) [(.t 9)]]⟩]) <|
 .cond (.t 10)
 (.ops false [⟨none,[.mov (some 11) (.t 5),.call (some 12) true (F 218) [(.t 11),(.k (.str [117,115,101,114,115]))],.mov (some 5) (.t 12)]⟩])
 (.skip)) <|
 .seq (.seq (.ops false [⟨none,[.mov (some 6) (.k (.int .i64 (-1)))]⟩]) <|
 .block 0 <|
 .loop <|
 .seq (.seq (.ops false [⟨none,[.mov (some 13) (.t 6),.mov (some 14) (.t 5),.len (some 15) false (.t 14),.bin (some 16) .lss (.t 13) (.t 15)]⟩]) <|
 .cond (.t 16)
 (.skip)
 (.exit 0)) <|
 .block 1 <|
 .seq (.ops false [⟨none,[.mov (some 17) (.t 5),.len (some 18) false (.t 17),.mov (some 6) (.t 18)]⟩]) <|
 .seq (.ops false [⟨none,[.mov (some 7) (.k (.int .i64 0))]⟩]) <|
 .block 2 <|
 .loop <|
 .seq (.seq (.ops false [⟨none,[.mov (some 19) (.t 7),.fadr (some 20) 0 (.t 2),.load (some 21) false 1 false (.t 20),.len (some 22) false (.t 21),.bin (some 23) .lss (.t 19) (.t 22)]⟩]) <|
 .cond (.t 23)
 (.skip)
 (.exit 2)) <|
 .seq (.block 3 <|
 .seq (.ops false [⟨none,[.fadr (some 26) 0 (.t 2),.load (some 27) false 1 false (.t 26),.mov (some 28) (.t 7),.iadr (some 29) 2 (.t 27) (.t 28),.load (some 30) false 2 true (.t 29),.mov (some 31) (.t 1),.mov (some 32) (.t 5),.call (some 33) true (F 219) [(.t 30),(.t 31),(.t 32)]]⟩]) <|
 .cond (.t 33)
 (.ops false [⟨none,[.mov (some 34) (.t 5),.fadr (some 35) 0 (.t 2),.load (some 36) false 1 false (.t 35),.mov (some 37) (.t 7),.iadr (some 38) 2 (.t 36) (.t 37),.fadr (some 39) 0 (.t 38),.load (some 40) false 1 false (.t 39),.call (some 41) true (F 218) [(.t 34),(.t 40)],.mov (some 5) (.t 41)]⟩])
 (.skip)) <|
 .ops false [⟨none,[.mov (some 24) (.t 7),.bin (some 25) .add (.t 24) (.k (.int .i64 1)),.mov (some 7) (.t 25)]⟩]) <|
 .seq (.ops false [⟨none,[.mov (some 42) (.t 5),.mov (some 4) (.t 42)]⟩]) <|
 .ret
abbrev Is209 (P:Program) (F T:Nat→Nat):Prop:=Fn P (F 209) 43 [(4,none)] (c209 F T)
def c212 (F T:Nat→Nat):C :=
 .seq (.ops false [⟨none,[.mov (some 2) (.k (.bool false))]⟩]) <|
 .seq (.ops false [⟨none,[.mov (some 8) (.t 0),.ecall (some 9) 34 (F 39) [(.t 8)],.mov (some 3) (.t 9)]⟩]) <|
 .seq (.gha (.frzb 4) <| .ops false [⟨none,[.mov (some 10) (.t 3),.ecall (some 11) 34 (F 207) [(.t 10)],.mov (some 12) (.t 3),.ecall (some 13) 34 (F 213) [(.t 12)],.alloc 4 (T 16) [.nils,.nils,.nils],.alloc 5 (T 17) [(.int .i64 0),(.str [])],.store 3 (.t 4) (.t 11),.store 2 (.t 5) (.t 13)]⟩]) <|
 .seq (.ops true [⟨none,[.load (some 14) true 3 true (.t 4),.mov (some 15) (.t 3),.ecall (some 16) 34 (F 208) [(.t 15)],.call (some 17) true (F 209) [(.t 14),(.t 16)],.mov (some 6) (.t 17)]⟩]) <|
 .seq (.seq (.ops false [⟨none,[.mov (some 7) (.k (.int .i64 0))]⟩]) <|
 .block 0 <|
 .loop <|
 .seq (.seq (.ops false [⟨none,[.mov (some 18) (.t 7),.bin (some 19) .leq (.t 18) (.k (.int .i64 6))]⟩]) <|
 .cond (.t 19)
 (.skip)
 (.exit 0)) <|
 .seq (.block 1 <|
 .seq (.ops true [⟨none,[.load (some 22) false 3 true (.t 4),.mov (some 23) (.t 6),.mov (some 24) (.t 7),.load (some 25) false 2 true (.t 5),.call (some 26) true (F 178) [(.t 22),(.t 23),(.t 24),(.t 25)],.load (some 27) false 3 true (.t 4),.mov (some 28) (.t 6),.mov (some 29) (.t 7),.load (some 30) false 2 true (.t 5),.call (some 31) true (F 192) [(.t 27),(.t 28),(.t 29),(.t 30)],.eqB (some 32) true (.t 26) (.t 31)]⟩]) <|
 .cond (.t 32)
 (.seq (.ops false [⟨none,[.mov (some 2) (.k (.bool false))]⟩]) <|
 .ret)
 (.skip)) <|
 .ops false [⟨none,[.mov (some 20) (.t 7),.bin (some 21) .add (.t 20) (.k (.int .i64 1)),.mov (some 7) (.t 21)]⟩]) <|
 .seq (.ops false [⟨none,[.call (some 33) true (F 176) [],.mov (some 2) (.t 33)]⟩]) <|
 .ret
abbrev Is212 (P:Program) (F T:Nat→Nat):Prop:=Fn P (F 212) 34 [(2,none)] (c212 F T)
end Go.Ab
