/- Lowered code of the functions, by program. No condition. -/
import Derived.Test.YtcmnepgnkcoiiaaGreatDoorAbG13
set_option linter.unusedVariables false
namespace Go.Ab
def c215 (F T:Nat→Nat):C :=
 .n [.mov (some 6) (.k (.bool false))] <|
 .n [.m 24 0,.e 25 168 (F 39) [.t 24],.m 7 25] <|
 .n [.m 26 7,.e 27 168 (F 40) [.t 26,.i 1],.m 28 7,.e 29 168 (F 213) [.t 28],.alloc 9 (T 17) [(.int .i64 0),(.str [])],.m 8 27,.store 2 (.t 9) (.t 29)] <|
 .n [.m 31 8,.c 32 (F 159) [.t 31],.m 30 32,.x 33 0 30,.x 34 1 30,.m 10 33,.m 11 34] <|
 .seq (.seq (.ops false [⟨none,[.m 35 11,.bi 36 .neq 35 0,.m 37 36]⟩,
 ⟨some (37,false),[.m 38 10,.ll 39 38,.bi 40 .eql 39 0]⟩,
 ⟨none,[.pt 41 37 40,.m 42 41]⟩,
 ⟨some (42,false),[.m 43 2,.ls 44 43,.bi 45 .gtr 44 200]⟩,
 ⟨none,[.pt 46 42 45,.m 47 46]⟩,
 ⟨some (47,false),[.m 48 8,.ls 49 48,.bi 50 .gtr 49 1000]⟩,
 ⟨none,[.pt 51 47 50]⟩]) <|
 .cond (.t 51)
 (.n [.c 52 (F 176) [],.m 6 52] <|
 .ret)
 (.skip)) <|
 .n [.m 53 1,.bi 54 .and 53 65535,.m 55 10,.ll 56 55,.b 57 .rem 54 56,.m 12 57] <|
 .n [.m 59 8,.m 60 12,.m 61 2,.c 62 (F 167) [.t 59,.t 60,.t 61],.m 58 62,.x 63 0 58,.x 64 1 58,.m 13 63,.m 14 64] <|
 .n [.m 66 10,.m 67 10,.m 68 12,.ia 69 5 67 68,.f 70 1 69,.l 71 70,.c 72 (F 129) [.t 66,.t 71],.m 65 72,.x 73 0 65,.x 74 1 65,.m 15 73,.m 16 74] <|
 .seq (.seq (.ops false [⟨none,[.m 75 14,.bi 76 .neq 75 0,.m 77 76]⟩,
 ⟨some (77,false),[.m 78 15,.m 79 12,.b 80 .neq 78 79]⟩,
 ⟨none,[.pt 81 77 80]⟩]) <|
 .cond (.t 81)
 (.n [.c 82 (F 176) [],.m 6 82] <|
 .ret)
 (.skip)) <|
 .seq (.p [.load (some 83) false 2 true (.t 9),.m 84 10,.m 85 12,.ia 86 5 84 85,.f 87 1 86,.l 88 87,.build (some 89) [(.bool false),(.str []),(.int .i64 0),(.str []),(.str [])] [(0,1,(.k (.bool true))),(1,1,(.s [115,116,97,102,102])),(2,2,(.t 83)),(4,1,(.t 88))],.mkl (some 90) 5 [.t 89],.build (some 91) [.nils,.nils,.nils] [(2,1,(.t 90))],.alloc 17 (T 16) [.nils,.nils,.nils],.store 3 (.t 17) (.t 91)]) <|
 .n [.m 93 13,.c 94 (F 159) [.t 93],.m 92 94,.x 95 0 92,.x 96 1 92,.m 18 95,.m 19 96] <|
 .n [.m 98 18,.m 99 10,.m 100 12,.ia 101 5 99 100,.f 102 1 101,.l 103 102,.c 104 (F 129) [.t 98,.t 103],.m 97 104,.x 105 0 97,.x 106 1 97,.m 20 105,.m 21 106] <|
 .seq (.ops true [⟨none,[.m 107 19,.bi 108 .eql 107 0,.m 109 108]⟩,
 ⟨some (109,true),[.m 110 21]⟩,
 ⟨none,[.pf 111 109 110,.m 112 111]⟩,
 ⟨some (112,true),[.m 113 13,.m 114 18,.m 115 20,.ia 116 5 114 115,.f 117 2 116,.l 118 117,.m 119 18,.m 120 20,.ia 121 5 119 120,.f 122 4 121,.l 123 122,.slcS (some 124) (.t 113) (some (.t 118)) (some (.t 123)),.m 125 8,.m 126 10,.m 127 12,.ia 128 5 126 127,.f 129 2 128,.l 130 129,.m 131 10,.m 132 12,.ia 133 5 131 132,.f 134 4 133,.l 135 134,.slcS (some 136) (.t 125) (some (.t 130)) (some (.t 135)),.b 137 .eql 124 136]⟩,
 ⟨none,[.pf 138 112 137,.m 22 138]⟩]) <|
 .n [.mov (some 23) (.i 3)] <|
 .seq (.n [.m 139 22] <|
 .cond (.t 139)
 (.o [.mov (some 23) (.i 1)])
 (.skip)) <|
 .seq (.ops false [⟨none,[.load (some 140) false 3 true (.t 17),.mkl (some 141) 1 [.s [97,108,108]],.load (some 142) false 2 true (.t 9),.m 143 8,.m 144 13,.c 145 (F 179) [.t 140,.t 141,.t 142,.t 143,.t 144],.m 146 23,.b 147 .eql 145 146,.m 148 147]⟩,
 ⟨some (148,true),[.load (some 149) false 3 true (.t 17),.mkl (some 150) 1 [.s [115,116,97,102,102]],.load (some 151) false 2 true (.t 9),.m 152 8,.m 153 13,.c 154 (F 179) [.t 149,.t 150,.t 151,.t 152,.t 153],.bi 155 .eql 154 1]⟩,
 ⟨none,[.pf 156 148 155,.m 157 156]⟩,
 ⟨some (157,true),[.load (some 158) false 3 true (.t 17),.build (some 159) [(.int .i64 0),(.str [])] [(1,1,(.s [69,108,115,101,119,104,101,114,101]))],.m 160 8,.m 161 13,.c 162 (F 179) [.t 158,(.k .nils),.t 159,.t 160,.t 161],.bi 163 .eql 162 1]⟩,
 ⟨none,[.pf 164 157 163,.m 165 164]⟩,
 ⟨some (165,true),[.c 166 (F 176) []]⟩,
 ⟨none,[.pf 167 165 166,.m 6 167]⟩]) <|
 .ret
abbrev bGv (P:Program) (F T:Nat→Nat):Prop:=Fn P (F 215) 168 [(6,none)] (c215 F T)
end Go.Ab
