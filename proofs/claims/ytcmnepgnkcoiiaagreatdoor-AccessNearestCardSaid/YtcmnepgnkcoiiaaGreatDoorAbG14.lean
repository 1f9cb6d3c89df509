/- Lowered code of the functions, by program. No condition. -/
import Derived.Test.YtcmnepgnkcoiiaaGreatDoorAbG13
set_option linter.unusedVariables false
namespace Go.Ab
def c251 (F T:Nat→Nat):C :=
 .seq (.ops false [⟨none,[.mov (some 6) (.k (.bool false))]⟩]) <|
 .seq (.ops false [⟨none,[.mov (some 15) (.t 0),.ecall (some 16) 87 (F 39) [(.t 15)],.mov (some 7) (.t 16)]⟩]) <|
 .seq (.ops false [⟨none,[.mov (some 17) (.t 7),.ecall (some 18) 87 (F 207) [(.t 17)],.mov (some 19) (.t 7),.ecall (some 20) 87 (F 213) [(.t 19)],.alloc 8 (T 16) [.nils,.nils,.nils],.alloc 9 (T 17) [(.int .i64 0),(.str [])],.store 3 (.t 8) (.t 18),.store 2 (.t 9) (.t 20)]⟩]) <|
 .seq (.ops false [⟨none,[.mov (some 21) (.t 2),.bin (some 22) .and (.t 21) (.k (.int .i64 7)),.bin (some 23) .rem (.t 22) (.k (.int .i64 5)),.bin (some 24) .add (.k (.int .i64 1)) (.t 23),.mov (some 2) (.t 24)]⟩]) <|
 .seq (.ops false [⟨none,[.load (some 25) false 2 true (.t 9),.build (some 26) [(.int .i64 0),(.int .i64 0),(.str [])] [(0,1,(.k (.int .i64 3))),(1,2,(.t 25))],.alloc 10 (T 18) [(.int .i64 0),(.int .i64 0),(.str [])],.store 3 (.t 10) (.t 26)]⟩]) <|
 .seq (.ops false [⟨none,[.mov (some 11) (.k (.bool false))]⟩]) <|
 .seq (.seq (.ops false [⟨none,[.mov (some 12) (.k (.int .i64 0))]⟩]) <|
 .block 0 <|
 .loop <|
 .seq (.seq (.ops false [⟨none,[.mov (some 27) (.t 12),.fadr (some 28) 1 (.t 8),.load (some 29) false 1 false (.t 28),.len (some 30) false (.t 29),.bin (some 31) .lss (.t 27) (.t 30)]⟩]) <|
 .cond (.t 31)
 (.skip)
 (.exit 0)) <|
 .seq (.block 1 <|
 .seq (.ops false [⟨none,[.fadr (some 34) 1 (.t 8),.load (some 35) false 1 false (.t 34),.mov (some 36) (.t 12),.iadr (some 37) 6 (.t 35) (.t 36),.load (some 38) false 6 true (.t 37),.alloc 13 (T 19) [(.bool false),(.int .i64 0),(.str []),(.int .i64 0),(.int .i64 0),(.str [])],.store 6 (.t 13) (.t 38)]⟩]) <|
 .ops false [⟨none,[.mov (some 39) (.t 11),.mov (some 40) (.t 39)]⟩,
 ⟨some (40,false),[.fadr (some 41) 3 (.t 13),.load (some 42) false 3 true (.t 41),.load (some 43) false 3 true (.t 10),.eqA (some 44) false [0,0,1] (.t 42) (.t 43),.mov (some 45) (.t 44)]⟩,
 ⟨some (45,true),[.fadr (some 46) 1 (.t 13),.load (some 47) false 1 false (.t 46),.mov (some 48) (.t 2),.bin (some 49) .eql (.t 47) (.t 48)]⟩,
 ⟨some (40,false),[.pick (some 50) (.t 45) (.t 49) (.k (.bool false)),.mov (some 51) (.t 50)]⟩,
 ⟨some (51,true),[.fadr (some 52) 2 (.t 13),.load (some 53) false 1 false (.t 52),.bin (some 54) .eql (.t 53) (.k (.str [97,108,108]))]⟩,
 ⟨some (40,false),[.pick (some 55) (.t 51) (.t 54) (.k (.bool false)),.mov (some 56) (.t 55)]⟩,
 ⟨some (56,true),[.fadr (some 57) 0 (.t 13),.load (some 58) false 1 false (.t 57),.un (some 59) .not (.t 58)]⟩,
 ⟨some (40,false),[.pick (some 60) (.t 56) (.t 59) (.k (.bool false))]⟩,
 ⟨none,[.pick (some 61) (.t 40) (.k (.bool true)) (.t 60),.mov (some 11) (.t 61)]⟩]) <|
 .ops false [⟨none,[.mov (some 32) (.t 12),.bin (some 33) .add (.t 32) (.k (.int .i64 1)),.mov (some 12) (.t 33)]⟩]) <|
 .seq (.ops false [⟨none,[.load (some 62) false 3 true (.t 8),.alloc 14 (T 16) [.nils,.nils,.nils],.store 3 (.t 14) (.t 62)]⟩]) <|
 .seq (.gha .fz <| .ops true [⟨none,[.fadr (some 63) 1 (.t 8),.load (some 64) false 1 false (.t 63),.appl 65 (T 19) 6 (.t 64),.mov (some 66) (.t 1),.mov (some 67) (.t 2),.load (some 68) false 3 true (.t 10),.build (some 69) [(.bool false),(.int .i64 0),(.str []),(.int .i64 0),(.int .i64 0),(.str [])] [(0,1,(.t 66)),(1,1,(.t 67)),(2,1,(.k (.str [97,108,108]))),(3,3,(.t 68))],.mkl (some 70) 6 [(.t 69)],.app 71 (T 19) 6 (.t 65) (.t 70),.fadr (some 72) 1 (.t 14),.store 1 (.t 72) (.t 71)]⟩]) <|
 .seq (.ops false [⟨none,[.load (some 73) false 3 true (.t 14),.mkl (some 74) 1 [(.k (.str [97,108,108]))],.mov (some 75) (.t 2),.load (some 76) false 2 true (.t 9),.call (some 77) true (F 178) [(.t 73),(.t 74),(.t 75),(.t 76)],.mov (some 78) (.t 1),.mov (some 79) (.t 78)]⟩,
 ⟨some (79,true),[.mov (some 80) (.t 11),.un (some 81) .not (.t 80)]⟩,
 ⟨none,[.pick (some 82) (.t 79) (.t 81) (.k (.bool false)),.eqB (some 83) false (.t 77) (.t 82),.mov (some 84) (.t 83)]⟩,
 ⟨some (84,true),[.call (some 85) true (F 176) []]⟩,
 ⟨none,[.pick (some 86) (.t 84) (.t 85) (.k (.bool false)),.mov (some 6) (.t 86)]⟩]) <|
 .ret
abbrev Is251 (P:Program) (F T:Nat→Nat):Prop:=Fn P (F 251) 87 [(6,none)] (c251 F T)
def c252 (F T:Nat→Nat):C :=
 .seq (.ops false [⟨none,[.mov (some 4) (.k (.bool false))]⟩]) <|
 .seq (.ops false [⟨none,[.mov (some 14) (.t 0),.ecall (some 15) 107 (F 39) [(.t 14)],.mov (some 5) (.t 15)]⟩]) <|
 .seq (.gha (.frzb 6) <| .ops false [⟨none,[.mov (some 16) (.t 5),.ecall (some 17) 107 (F 207) [(.t 16)],.mov (some 18) (.t 5),.ecall (some 19) 107 (F 213) [(.t 18)],.alloc 6 (T 16) [.nils,.nils,.nils],.alloc 7 (T 17) [(.int .i64 0),(.str [])],.store 3 (.t 6) (.t 17),.store 2 (.t 7) (.t 19)]⟩]) <|
 .seq (.ops true [⟨none,[.load (some 20) true 3 true (.t 6),.mov (some 21) (.t 5),.ecall (some 22) 107 (F 208) [(.t 21)],.call (some 23) true (F 209) [(.t 20),(.t 22)],.mov (some 8) (.t 23)]⟩]) <|
 .seq (.ops false [⟨none,[.fadr (some 24) 0 (.t 7),.load (some 25) false 1 false (.t 24),.fadr (some 26) 1 (.t 7),.load (some 27) false 1 false (.t 26),.bin (some 28) .add (.t 27) (.k (.str [47,122,122])),.build (some 29) [(.int .i64 0),(.str [])] [(0,1,(.t 25)),(1,1,(.t 28))],.alloc 9 (T 17) [(.int .i64 0),(.str [])],.store 2 (.t 9) (.t 29)]⟩]) <|
 .seq (.seq (.ops false [⟨none,[.mov (some 10) (.k (.int .i64 0))]⟩]) <|
 .block 0 <|
 .loop <|
 .seq (.seq (.ops false [⟨none,[.mov (some 30) (.t 10),.fadr (some 31) 1 (.t 6),.load (some 32) false 1 false (.t 31),.len (some 33) false (.t 32),.bin (some 34) .lss (.t 30) (.t 33)]⟩]) <|
 .cond (.t 34)
 (.skip)
 (.exit 0)) <|
 .seq (.block 1 <|
 .seq (.ops true [⟨none,[.fadr (some 37) 1 (.t 6),.load (some 38) false 1 false (.t 37),.mov (some 39) (.t 10),.iadr (some 40) 6 (.t 38) (.t 39),.fadr (some 41) 3 (.t 40),.fadr (some 42) 1 (.t 41),.load (some 43) false 2 true (.t 42),.load (some 44) false 2 true (.t 9),.eqA (some 45) false [0,1] (.t 43) (.t 44)]⟩]) <|
 .cond (.t 45)
 (.seq (.ops false [⟨none,[.call (some 46) true (F 176) [],.mov (some 4) (.t 46)]⟩]) <|
 .ret)
 (.skip)) <|
 .ops false [⟨none,[.mov (some 35) (.t 10),.bin (some 36) .add (.t 35) (.k (.int .i64 1)),.mov (some 10) (.t 36)]⟩]) <|
 .seq (.ops false [⟨none,[.mov (some 47) (.t 1),.bin (some 48) .and (.t 47) (.k (.int .i64 7)),.bin (some 49) .rem (.t 48) (.k (.int .i64 5)),.bin (some 50) .add (.k (.int .i64 1)) (.t 49),.mov (some 1) (.t 50)]⟩]) <|
 .seq (.ops false [⟨none,[.fadr (some 51) 0 (.t 7),.load (some 52) false 1 false (.t 51),.build (some 53) [(.int .i64 0),(.str [])] [(0,1,(.t 52)),(1,1,(.k (.str [85,110,107,110,111,119,110])))],.alloc 11 (T 17) [(.int .i64 0),(.str [])],.store 2 (.t 11) (.t 53)]⟩]) <|
 .seq (.gha .fz <| .ops false [⟨none,[.alloc 12 (T 16) [.nils,.nils,.nils]]⟩]) <|
 .seqc (.seq (.ops false [⟨none,[.mov (some 13) (.k (.int .i64 0))]⟩]) <|
 .block 2 <|
 .loop <|
 .seq (.seq (.ops false [⟨none,[.mov (some 54) (.t 13),.fadr (some 55) 1 (.t 6),.load (some 56) false 1 false (.t 55),.len (some 57) false (.t 56),.bin (some 58) .lss (.t 54) (.t 57)]⟩]) <|
 .cond (.t 58)
 (.skip)
 (.exit 2)) <|
 .seq (.block 3 <|
 .seq (.ops false [⟨none,[.fadr (some 61) 1 (.t 6),.load (some 62) false 1 false (.t 61),.mov (some 63) (.t 13),.iadr (some 64) 6 (.t 62) (.t 63),.fadr (some 65) 3 (.t 64),.fadr (some 66) 0 (.t 65),.load (some 67) false 1 false (.t 66),.bin (some 68) .neq (.t 67) (.k (.int .i64 3))]⟩]) <|
 .cond (.t 68)
 (.gha .fz <| .ops true [⟨none,[.fadr (some 69) 1 (.t 12),.load (some 70) false 1 false (.t 69),.appl 71 (T 19) 6 (.t 70),.fadr (some 72) 1 (.t 6),.load (some 73) false 1 false (.t 72),.mov (some 74) (.t 13),.iadr (some 75) 6 (.t 73) (.t 74),.load (some 76) false 6 true (.t 75),.mkl (some 77) 6 [(.t 76)],.app 78 (T 19) 6 (.t 71) (.t 77),.fadr (some 79) 1 (.t 12),.store 1 (.t 79) (.t 78)]⟩])
 (.skip)) <|
 .ops false [⟨none,[.mov (some 59) (.t 13),.bin (some 60) .add (.t 59) (.k (.int .i64 1)),.mov (some 13) (.t 60)]⟩]) <|
 .seq (.ops true [⟨none,[.load (some 80) false 3 true (.t 6),.mov (some 81) (.t 8),.mov (some 82) (.t 1),.load (some 83) false 2 true (.t 9),.call (some 84) true (F 178) [(.t 80),(.t 81),(.t 82),(.t 83)],.load (some 85) false 3 true (.t 6),.mov (some 86) (.t 8),.mov (some 87) (.t 1),.load (some 88) false 2 true (.t 7),.call (some 89) true (F 178) [(.t 85),(.t 86),(.t 87),(.t 88)],.eqB (some 90) false (.t 84) (.t 89),.mov (some 91) (.t 90)]⟩,
 ⟨some (91,true),[.load (some 92) false 3 true (.t 6),.mov (some 93) (.t 8),.mov (some 94) (.t 1),.load (some 95) false 2 true (.t 11),.call (some 96) true (F 178) [(.t 92),(.t 93),(.t 94),(.t 95)],.load (some 97) false 3 true (.t 12),.mov (some 98) (.t 8),.mov (some 99) (.t 1),.load (some 100) false 2 true (.t 7),.call (some 101) true (F 178) [(.t 97),(.t 98),(.t 99),(.t 100)],.eqB (some 102) false (.t 96) (.t 101)]⟩,
 ⟨none,[.pick (some 103) (.t 91) (.t 102) (.k (.bool false)),.mov (some 104) (.t 103)]⟩,
 ⟨some (104,true),[.call (some 105) true (F 176) []]⟩,
 ⟨none,[.pick (some 106) (.t 104) (.t 105) (.k (.bool false)),.mov (some 4) (.t 106)]⟩]) <|
 .ret
abbrev Is252 (P:Program) (F T:Nat→Nat):Prop:=Fn P (F 252) 107 [(4,none)] (c252 F T)
end Go.Ab
