/- Several texts of one kind, merged. No condition. -/
import Derived.Test.YtgdllpgidgiccaaGreatDoorAbR1
import Derived.Test.YtgdllpgidgiccaaGreatDoorAbR3
set_option linter.unusedSimpArgs false
set_option linter.unusedVariables false
namespace Go.Ab
def c39 (F T:Nat→Nat):C :=
 .n [.mov (some 2) (.k .nilp)] <|
 .n [.m 3 0,.build (some 4) [.nils,(.int .i64 0)] [(0,1,(.t 3))],.box 5 (T 10) (.t 4),.m 2 5] <|
 .ret
abbrev Is39 (P:Program) (F T:Nat→Nat):Prop:=Fn P (F 39) 6 [(2,none)] (c39 F T)
def c46 (F T:Nat→Nat):C :=
 .n [.mov (some 4) (.i 0)] <|
 .seq (.seq (.p [.m 6 0,.nchk (some 7) (.t 6),.f 8 1 7,.l 9 8,.m 10 0,.nchk (some 11) (.t 10),.f 12 0 11,.l 13 12,.ll 14 13,.b 15 .geq 9 14]) <|
 .cond (.t 15)
 (.n [.mov (some 4) (.i 0)] <|
 .ret)
 (.skip)) <|
 .seq (.p [.m 16 0,.nchk (some 17) (.t 16),.f 18 0 17,.l 19 18,.m 20 0,.nchk (some 21) (.t 20),.f 22 1 21,.l 23 22,.ia 24 1 19 23,.l 25 24,.bi 26 .and 25 16777215,.m 5 26]) <|
 .n [.m 27 0,.nchk (some 28) (.t 27),.f 29 1 28,.l 30 29,.bi 31 .add 30 1,.nchk (some 32) (.t 27),.f 33 1 32,.store 1 (.t 33) (.t 31)] <|
 .n [.m 34 5,.m 35 1,.b 36 .rem 34 35,.m 4 36] <|
 .ret
abbrev Is46 (P:Program) (F T:Nat→Nat):Prop:=Fn P (F 46) 37 [(4,none)] (c46 F T)
def c47 (F T:Nat→Nat):C :=
 .n [.mov (some 4) (.s [])] <|
 .n [.m 5 1,.m 6 0,.m 7 1,.ll 8 7,.e 9 12 (F 46) [.t 6,.t 8],.ia 10 1 5 9,.l 11 10,.m 4 11] <|
 .ret
abbrev Is47 (P:Program) (F T:Nat→Nat):Prop:=Fn P (F 47) 12 [(4,none)] (c47 F T)
end Go.Ab
namespace Go.Ab
def c40 (F T:Nat→Nat):C :=
 .n [.mov (some 4) (.s [])] <|
 .n [.m 9 0,.mkl (some 10) 1 [.s [],.s [],.s [],.s [],.s [35,82,69,68,73,82,69,67,84,32,91,91,66,93,93,10],.s [35,82,69,68,73,82,69,67,84,32,91,91,58,84,101,109,112,108,97,116,101,58,84,93,93,32,120]],.e 11 45 (F 47) [.t 9,.t 10],.m 5 11] <|
 .n [.m 12 0,.e 13 45 (F 46) [.t 12,.i 5],.m 6 13] <|
 .seq (.n [.mov (some 7) (.i 0)] <|
 .block 0 <|
 .loop <|
 .seq (.n [.m 14 7,.m 15 6,.b 16 .leq 14 15] <|
 .cond (.t 16)
 (.skip)
 (.exit 0)) <|
 .seq (.block 1 <|
 .seqc (.n [.m 19 7,.bi 20 .gtr 19 0] <|
 .cond (.t 20)
 (.o [.m 21 5,.bin (some 22) .add (.t 21) (.s [10]),.m 5 22])
 (.skip)) <|
 .seqc (.n [.m 23 0,.e 24 45 (F 46) [.t 23,.i 4],.bi 25 .eql 24 0] <|
 .cond (.t 25)
 (.n [.m 26 0,.mkl (some 27) 1 [.s [61],.s [61,61],.s [61,61],.s [61,61,61]],.e 28 45 (F 47) [.t 26,.t 27],.m 8 28] <|
 .o [.m 29 5,.m 30 8,.b 31 .add 29 30,.m 32 0,.mkl (some 33) 1 [.s [32,115,32],.s [32,116,32],.s [97,32,98],.s [32,115,32]],.e 34 45 (F 47) [.t 32,.t 33],.b 35 .add 31 34,.m 36 8,.b 37 .add 35 36,.bin (some 38) .add (.t 37) (.s [10]),.m 5 38])
 (.skip)) <|
 .o [.m 39 5,.m 40 0,.m 41 1,.e 42 45 (F 63) [.t 40,.t 41],.b 43 .add 39 42,.m 5 43]) <|
 .o [.m 17 7,.bi 18 .add 17 1,.m 7 18]) <|
 .n [.m 44 5,.m 4 44] <|
 .ret
abbrev Is40 (P:Program) (F T:Nat→Nat):Prop:=Fn P (F 40) 45 [(4,none)] (c40 F T)
def c63 (F T:Nat→Nat):C :=
 .n [.mov (some 4) (.s [])] <|
 .n [.m 7 0,.mkl (some 8) 1 [.s [],.s [],.s [],.s [42,32],.s [42,42,32],.s [35,32],.s [42,35,32],.s [32],.s [123,124],.s [124],.s [124,45],.s [33],.s [124,125],.s [45,45,45,45]],.e 9 22 (F 47) [.t 7,.t 8],.m 5 9] <|
 .seq (.n [.mov (some 6) (.i 0)] <|
 .block 0 <|
 .loop <|
 .seq (.n [.m 10 6,.m 11 0,.e 12 22 (F 46) [.t 11,.i 3],.b 13 .leq 10 12] <|
 .cond (.t 13)
 (.skip)
 (.exit 0)) <|
 .seq (.block 1 <|
 .o [.m 16 5,.m 17 0,.m 18 1,.e 19 22 (F 93) [.t 17,.t 18],.b 20 .add 16 19,.m 5 20]) <|
 .o [.m 14 6,.bi 15 .add 14 1,.m 6 15]) <|
 .n [.m 21 5,.m 4 21] <|
 .ret
abbrev Is63 (P:Program) (F T:Nat→Nat):Prop:=Fn P (F 63) 22 [(4,none)] (c63 F T)
def c93 (F T:Nat→Nat):C :=
 .n [.mov (some 4) (.s [])] <|
 .seq (.n [.m 6 1,.bi 7 .leq 6 0] <|
 .cond (.t 7)
 (.n [.m 8 0,.e 9 238 (F 112) [.t 8],.m 4 9] <|
 .ret)
 (.skip)) <|
 .n [.m 10 1,.bi 11 .sub 10 1,.m 5 11] <|
 .seq (.n [.m 12 0,.e 13 238 (F 46) [.t 12,.i 24]] <|
 .block 0 <|
 .n [.bi 15 .eql 13 0,.m 14 15] <|
 .cond (.t 14)
 (.n [.m 16 0,.mkl (some 17) 1 [.s [84],.s [85,47,120],.s [58,65],.s [58,66],.s [58,67],.s [47,120],.s [65],.s [66],.s [58,84,97,108,107,58,65],.s [88]],.e 18 238 (F 47) [.t 16,.t 17],.bin (some 19) .add (.s [123,123]) (.t 18),.bin (some 20) .add (.t 19) (.s [124]),.m 21 0,.m 22 5,.e 23 238 (F 93) [.t 21,.t 22],.b 24 .add 20 23,.bin (some 25) .add (.t 24) (.s [124]),.m 26 0,.mkl (some 27) 1 [.s [107],.s [49],.s [110]],.e 28 238 (F 47) [.t 26,.t 27],.b 29 .add 25 28,.bin (some 30) .add (.t 29) (.s [61]),.m 31 0,.m 32 5,.e 33 238 (F 93) [.t 31,.t 32],.b 34 .add 30 33,.bin (some 35) .add (.t 34) (.s [125,125]),.m 4 35] <|
 .ret)
 (.n [.bi 37 .eql 13 1,.m 36 37] <|
 .cond (.t 36)
 (.n [.m 38 0,.mkl (some 39) 1 [.s [84],.s [65],.s [66],.s [58,65],.s [58,65,47,66]],.e 40 238 (F 47) [.t 38,.t 39],.bin (some 41) .add (.s [123,123]) (.t 40),.bin (some 42) .add (.t 41) (.s [125,125]),.m 4 42] <|
 .ret)
 (.n [.bi 44 .eql 13 2,.m 43 44] <|
 .cond (.t 43)
 (.n [.m 45 0,.mkl (some 46) 1 [.s [49],.s [107],.s [110],.s [105],.s [120]],.e 47 238 (F 47) [.t 45,.t 46],.bin (some 48) .add (.s [123,123,123]) (.t 47),.m 49 0,.mkl (some 50) 1 [.s [],.s [124],.s [124,100]],.e 51 238 (F 47) [.t 49,.t 50],.b 52 .add 48 51,.bin (some 53) .add (.t 52) (.s [125,125,125]),.m 4 53] <|
 .ret)
 (.n [.bi 55 .eql 13 3,.m 54 55] <|
 .cond (.t 54)
 (.n [.m 56 0,.m 57 5,.e 58 238 (F 93) [.t 56,.t 57],.bin (some 59) .add (.s [123,123,35,105,102,58]) (.t 58),.bin (some 60) .add (.t 59) (.s [124]),.m 61 0,.m 62 5,.e 63 238 (F 93) [.t 61,.t 62],.b 64 .add 60 63,.bin (some 65) .add (.t 64) (.s [124]),.m 66 0,.m 67 5,.e 68 238 (F 93) [.t 66,.t 67],.b 69 .add 65 68,.bin (some 70) .add (.t 69) (.s [125,125]),.m 4 70] <|
 .ret)
 (.n [.bi 72 .eql 13 4,.m 71 72] <|
 .cond (.t 71)
 (.n [.m 73 0,.m 74 5,.e 75 238 (F 93) [.t 73,.t 74],.bin (some 76) .add (.s [123,123,35,105,102,101,113,58]) (.t 75),.bin (some 77) .add (.t 76) (.s [124]),.m 78 0,.m 79 5,.e 80 238 (F 93) [.t 78,.t 79],.b 81 .add 77 80,.bin (some 82) .add (.t 81) (.s [124,121,101,115,124]),.m 83 0,.m 84 5,.e 85 238 (F 93) [.t 83,.t 84],.b 86 .add 82 85,.bin (some 87) .add (.t 86) (.s [125,125]),.m 4 87] <|
 .ret)
 (.n [.bi 89 .eql 13 5,.m 88 89] <|
 .cond (.t 88)
 (.n [.m 90 0,.e 91 238 (F 112) [.t 90],.bin (some 92) .add (.s [123,123,35,115,119,105,116,99,104,58]) (.t 91),.bin (some 93) .add (.t 92) (.s [124,97,61,49,124,98,124,49,50,61]),.m 94 0,.m 95 5,.e 96 238 (F 93) [.t 94,.t 95],.b 97 .add 93 96,.bin (some 98) .add (.t 97) (.s [124,35,100,101,102,97,117,108,116,61,100,124]),.m 99 0,.mkl (some 100) 1 [.s [122,61,50],.s [108,97,115,116]],.e 101 238 (F 47) [.t 99,.t 100],.b 102 .add 98 101,.bin (some 103) .add (.t 102) (.s [125,125]),.m 4 103] <|
 .ret)
 (.n [.bi 105 .eql 13 6,.m 104 105] <|
 .cond (.t 104)
 (.n [.m 106 0,.mkl (some 107) 1 [.s [65],.s [66],.s [84,101,109,112,108,97,116,101,58,84],.s [67],.s [91],.s [84,97,108,107,58,65]],.e 108 238 (F 47) [.t 106,.t 107],.bin (some 109) .add (.s [123,123,35,105,102,101,120,105,115,116,58]) (.t 108),.bin (some 110) .add (.t 109) (.s [124]),.m 111 0,.m 112 5,.e 113 238 (F 93) [.t 111,.t 112],.b 114 .add 110 113,.bin (some 115) .add (.t 114) (.s [124,110,111,125,125]),.m 4 115] <|
 .ret)
 (.n [.bi 117 .eql 13 7,.m 116 117] <|
 .cond (.t 116)
 (.n [.m 118 0,.mkl (some 119) 1 [.s [49,44,50,44,51],.s [97,44,98],.s [],.s [120]],.e 120 238 (F 47) [.t 118,.t 119],.bin (some 121) .add (.s [123,123,35,102,111,114,58]) (.t 120),.bin (some 122) .add (.t 121) (.s [124,124,105,124]),.m 123 0,.m 124 5,.e 125 238 (F 93) [.t 123,.t 124],.b 126 .add 122 125,.bin (some 127) .add (.t 126) (.s [123,123,123,105,125,125,125,124,44,32,125,125]),.m 4 127] <|
 .ret)
 (.n [.bi 129 .eql 13 8,.m 128 129] <|
 .cond (.t 128)
 (.n [.m 130 0,.mkl (some 131) 1 [.s [89],.s [70,32,89],.s [106,46,110,46],.s [72],.s [72,58,105],.s [78],.s [92,89]],.e 132 238 (F 47) [.t 130,.t 131],.bin (some 133) .add (.s [123,123,35,100,97,116,101,58]) (.t 132),.bin (some 134) .add (.t 133) (.s [125,125]),.m 4 134] <|
 .ret)
 (.n [.bi 136 .eql 13 9,.m 135 136] <|
 .cond (.t 135)
 (.n [.m 137 0,.mkl (some 138) 1 [.s [88],.s [65],.s [66]],.e 139 238 (F 47) [.t 137,.t 138],.bin (some 140) .add (.s [123,123,35,99,111,117,110,116,58]) (.t 139),.bin (some 141) .add (.t 140) (.s [125,125]),.m 4 141] <|
 .ret)
 (.n [.bi 143 .eql 13 10,.m 142 143] <|
 .cond (.t 142)
 (.n [.m 144 0,.mkl (some 145) 1 [.s [88],.s [65],.s []],.e 146 238 (F 47) [.t 144,.t 145],.bin (some 147) .add (.s [123,123,35,109,101,109,98,101,114,115,58]) (.t 146),.bin (some 148) .add (.t 147) (.s [125,125]),.m 4 148] <|
 .ret)
 (.n [.bi 150 .eql 13 11,.m 149 150] <|
 .cond (.t 149)
 (.n [.m 151 0,.mkl (some 152) 1 [.s [114,101,97,100],.s [101,100,105,116],.s [120]],.e 153 238 (F 47) [.t 151,.t 152],.bin (some 154) .add (.s [123,123,35,114,105,103,104,116,58]) (.t 153),.bin (some 155) .add (.t 154) (.s [124]),.m 156 0,.mkl (some 157) 1 [.s [65],.s [66],.s [84,97,108,107,58,65]],.e 158 238 (F 47) [.t 156,.t 157],.b 159 .add 155 158,.bin (some 160) .add (.t 159) (.s [124,109,97,121,124,109,97,121,32,110,111,116,125,125]),.m 4 160] <|
 .ret)
 (.n [.bi 162 .eql 13 12,.m 161 162] <|
 .cond (.t 161)
 (.n [.m 163 0,.mkl (some 164) 1 [.s [65],.s [66],.s [67]],.e 165 238 (F 47) [.t 163,.t 164],.bin (some 166) .add (.s [123,123,35,114,101,118,105,115,105,111,110,58]) (.t 165),.bin (some 167) .add (.t 166) (.s [125,125]),.m 4 167] <|
 .ret)
 (.n [.bi 169 .eql 13 13,.m 168 169] <|
 .cond (.t 168)
 (.n [.m 170 0,.m 171 0,.e 172 238 (F 112) [.t 171],.bin (some 173) .add (.s [117,99,58]) (.t 172),.mkl (some 174) 1 [.s [102,111,114,109,117,108,97,58,49,43,50,42,51],.s [102,111,114,109,117,108,97,58,49,47,48],.s [108,101,110,58,97,98,99],.t 173,.s [115,117,98,58,97,98,99,100,101,102,124,49,124,50],.s [110,111,110,101,58,120],.s [112,97,103,101],.s [110,97,109,101],.s [115,112,97,99,101],.s [105,102,102,111,114,109,117,108,97,58,49,62,50,124,97,124,98]],.e 175 238 (F 47) [.t 170,.t 174],.bin (some 176) .add (.s [123,123,35]) (.t 175),.bin (some 177) .add (.t 176) (.s [125,125]),.m 4 177] <|
 .ret)
 (.n [.bi 179 .eql 13 14,.m 178 179] <|
 .cond (.t 178)
 (.n [.m 180 0,.mkl (some 181) 1 [.s [65],.s [66],.s [84,97,108,107,58,65],.s [67,124,99],.s [67,97,116,101,103,111,114,121,58,88],.s [67,97,116,101,103,111,114,121,58,88,124,115],.s [58,67,97,116,101,103,111,114,121,58,88],.s [65,35,115],.s [35,115],.s [91],.s [67,97,116,101,103,111,114,121,58,65]],.e 182 238 (F 47) [.t 180,.t 181],.bin (some 183) .add (.s [91,91]) (.t 182),.bin (some 184) .add (.t 183) (.s [93,93]),.m 4 184] <|
 .ret)
 (.n [.bi 186 .eql 13 15,.m 185 186] <|
 .cond (.t 185)
 (.n [.m 187 0,.m 188 5,.e 189 238 (F 93) [.t 187,.t 188],.bin (some 190) .add (.s [39,39,39]) (.t 189),.bin (some 191) .add (.t 190) (.s [39,39,39]),.m 4 191] <|
 .ret)
 (.n [.bi 193 .eql 13 16,.m 192 193] <|
 .cond (.t 192)
 (.n [.m 194 0,.m 195 5,.e 196 238 (F 93) [.t 194,.t 195],.bin (some 197) .add (.s [39,39]) (.t 196),.bin (some 198) .add (.t 197) (.s [39,39]),.m 4 198] <|
 .ret)
 (.n [.bi 200 .eql 13 17,.m 199 200] <|
 .cond (.t 199)
 (.n [.m 201 0,.mkl (some 202) 1 [.s [],.s [32,110,97,109,101,61,110],.s [32,110,97,109,101,61,109]],.e 203 238 (F 47) [.t 201,.t 202],.bin (some 204) .add (.s [60,114,101,102]) (.t 203),.bin (some 205) .add (.t 204) (.s [62]),.m 206 0,.m 207 5,.e 208 238 (F 93) [.t 206,.t 207],.b 209 .add 205 208,.bin (some 210) .add (.t 209) (.s [60,47,114,101,102,62]),.m 4 210] <|
 .ret)
 (.n [.bi 212 .eql 13 18,.m 211 212] <|
 .cond (.t 211)
 (.n [.m 213 0,.mkl (some 214) 1 [.s [123,123,84,125,125],.s [39,39],.s [91,91,65,93,93],.s [97]],.e 215 238 (F 47) [.t 213,.t 214],.bin (some 216) .add (.s [60,110,111,119,105,107,105,62]) (.t 215),.bin (some 217) .add (.t 216) (.s [60,47,110,111,119,105,107,105,62]),.m 4 217] <|
 .ret)
 (.n [.bi 219 .eql 13 19,.m 218 219] <|
 .cond (.t 218)
 (.n [.m 220 0,.mkl (some 221) 1 [.s [60,110,111,105,110,99,108,117,100,101,62],.s [60,105,110,99,108,117,100,101,111,110,108,121,62],.s [60,111,110,108,121,105,110,99,108,117,100,101,62]],.e 222 238 (F 47) [.t 220,.t 221],.m 223 0,.m 224 5,.e 225 238 (F 93) [.t 223,.t 224],.b 226 .add 222 225,.m 227 0,.mkl (some 228) 1 [.s [60,47,110,111,105,110,99,108,117,100,101,62],.s [60,47,105,110,99,108,117,100,101,111,110,108,121,62],.s [60,47,111,110,108,121,105,110,99,108,117,100,101,62]],.e 229 238 (F 47) [.t 227,.t 228],.b 230 .add 226 229,.m 4 230] <|
 .ret)
 (.n [.bi 232 .eql 13 20,.m 231 232] <|
 .cond (.t 231)
 (.n [.m 233 0,.mkl (some 234) 1 [.s [60,33,45,45,99,45,45,62],.s [60,114,101,102,32,110,97,109,101,61,110,47,62],.s [60,98,114,62],.s [38,108,116,59],.s [38,35,57,49,59],.s [123,123],.s [125,125],.s [91,91],.s [93,93],.s [124],.s [61]],.e 235 238 (F 47) [.t 233,.t 234],.m 4 235] <|
 .ret)
 (.skip)))))))))))))))))))))) <|
 .n [.m 236 0,.e 237 238 (F 112) [.t 236],.m 4 237] <|
 .ret
abbrev Is93 (P:Program) (F T:Nat→Nat):Prop:=Fn P (F 93) 238 [(4,none)] (c93 F T)
def c112 (F T:Nat→Nat):C :=
 .n [.mov (some 2) (.s [])] <|
 .n [.m 3 0,.mkl (some 4) 1 [.s [97],.s [120,32,121],.s [49,50],.s [],.s [98],.s [48],.s [45,51],.s [65,98],.s [32],.s [122]],.e 5 6 (F 47) [.t 3,.t 4],.m 2 5] <|
 .ret
abbrev bIy (P:Program) (F T:Nat→Nat):Prop:=Fn P (F 112) 6 [(2,none)] (c112 F T)
end Go.Ab
namespace Go.Ab
variable {P:Program} {F T:Nat→Nat}
def TB (T:Nat→Nat) (L:Heap) (p:Nat):Prop:=∃ (es:List V) (a:Nat),L p=some (.box (T 10) [.lst 1 es,.int .i64 a])∧(∀ e,e∈es→∃ m,e=.int .i64 m)∧a≤es.length∧es.length<2^63
structure TD (T:Nat→Nat) (L:Heap) (nx p:Nat) (L':Heap) (nx':Nat):Prop where
 tb:TB T L' p
 le:nx≤nx'
 fr:∀ b,b<nx→b≠p→L' b=L b
theorem TD.trans {L L1 L2:Heap} {nx n1 n2 p:Nat} (h:TD T L nx p L1 n1) (k:TD T L1 n1 p L2 n2):TD T L nx p L2 n2 :=
 ⟨k.tb,Nat.le_trans h.le k.le,fun b hb hbp=>(k.fr b (Nat.lt_of_lt_of_le hb h.le) hbp).trans (h.fr b hb hbp)⟩
theorem TD.up {L L':Heap} {nx n' m p:Nat} (h:TD T L nx p L' n') (hm:n'≤m):TD T L nx p L' m:=⟨h.tb,Nat.le_trans h.le hm,h.fr⟩
theorem TD.dn {L L':Heap} {nx n' m p:Nat} (h:TD T L m p L' n') (hm:nx≤m):TD T L nx p L' n':=⟨h.tb,Nat.le_trans hm h.le,fun b hb=>h.fr b (Nat.lt_of_lt_of_le hb hm)⟩
structure TC (P:Program) (F T:Nat→Nat):Prop where
 h46:Is46 P F T
 h47:Is47 P F T
theorem n46 (K:TC P F T) {L:Heap} {nx p:Nat} (h:TB T L p) (hp:p<nx) (n:Nat) (hn:1≤n) (hn2:n≤100) :
 ECall P (F 46) [.ptr p 0,.int .i64 n] L nx (fun v L' nx'=>∃ r:Nat,v=.int .i64 r∧r<n∧TD T L nx p L' nx'):=by
 obtain ⟨es,a,hL,hes,ha,hl⟩:=h
 refine aA0 [] K.h46 (by simp) ?_
 by_cases hlt:a<es.length
 ·have h1:¬ ((es.length:Nat):Int)≤(a:Nat):=by omega
  obtain ⟨m,hm⟩:=hes (es[a]) (List.getElem_mem hlt)
  have hg:es.getD a .junk=.int .i64 m:=by rw [← hm]; simp [List.getD,hlt]
  obtain ⟨k,hk,hv⟩:=aZ2 m 16777215 (by omega)
  have hv':aL2 .and .i64 m 16777215=(k:Int):=hv
  have hu:=fun (x:Option Blk) (M:Heap)=>aAe M p x
  have ht:((k:Nat):Int).tmod (n:Nat)=((k % n:Nat):Int):=by rw [Int.tmod_eq_emod_of_nonneg (by omega)]; simp
  have hn0:¬ ((n:Nat):Int)=0:=by omega
  simp only [c46,push_cast,seval,-Nat.reducePow,hL,h1,hg,hv',ht,hu,hn0]
  have hmod:k % n<n:=Nat.mod_lt _ (by omega)
  refine ⟨hlt,⟨by omega,by omega⟩,by omega,k % n,by simp,hmod,⟨⟨es,a+1,by rw [hu]; simp,hes,by omega,hl⟩,by omega,fun b hb hbp=>aAc _ _ _ _ hbp⟩⟩
 ·have h1:((es.length:Nat):Int)≤(a:Nat):=by omega
  simp only [c46,push_cast,seval,-Nat.reducePow,hL,h1]
  exact ⟨by omega,0,by simp,by omega,⟨⟨es,a,hL,hes,ha,hl⟩,by omega,fun b _ _=>rfl⟩⟩
def aDx (B:Nat) (vs:List V):Bool:=vs.all fun | .str q=>decide (q.length≤B) | _=>false
theorem bDe {B:Nat} {vs:List V} (h:aDx B vs=true) {i:Nat} (hi:i<vs.length):∃ q,vs.getD i .junk=.str q∧q.length≤B:=by
 have:=List.all_eq_true.1 h vs[i] (List.getElem_mem hi)
 have e:vs.getD i .junk=vs[i]:=by simp [List.getD,hi]
 rw [e]
 revert this
 cases vs[i] with
 | str q=>intro h; exact ⟨q,rfl,by simpa using h⟩
 | _=>intro h; simp at h
def TS (T:Nat→Nat) (L:Heap) (nx p B:Nat) (v:V) (L':Heap) (nx':Nat):Prop:=∃ q,v=.str q∧q.length≤B∧TD T L nx p L' nx'
theorem n47 (K:TC P F T) {L:Heap} {nx p:Nat} (h:TB T L p) (hp:p<nx) (B:Nat) (vs:List V) (h1:aDx B vs=true) (h2:1≤vs.length) (h3:vs.length≤100) (hi:V.imms vs=true) :
 ECall P (F 47) [.ptr p 0,.lst 1 vs] L nx (TS T L nx p B):=by
 refine aA0 [] K.h47 (by simp) ?_
 simp only [c47,push_cast,seval,-Nat.reducePow]
 refine aAa (n46 K h (nx:=nx+24) (by omega) vs.length h2 h3) ?_
 rintro v L1 n1 ⟨r,rfl,hr,hT⟩
 obtain ⟨q,hq,hb⟩:=bDe h1 hr
 have z:=hT.dn (nx:=nx) (by omega)
 simp only [push_cast,seval,-Nat.reducePow,hq]
 exact ⟨hr,by have:=z.le; omega,q,rfl,hb,z.up (by omega)⟩
theorem n39 (hf:Is39 P F T) {L:Heap} {nx:Nat} (es:List V) (hi:V.imms es=true) (hes:∀ e,e∈es→∃ m,e=.int .i64 m) (hl:es.length<2^63) :
 ECall P (F 39) [.lst 1 es] L nx (fun v L' nx'=>∃ p,v=.ptr p 0∧p<nx'∧nx≤nx'∧TB T L' p):=by
 refine aA0 [] hf (by simp) ?_
 simp only [c39,push_cast,seval,-Nat.reducePow]
 exact ⟨by omega,nx+11,rfl,by omega,by omega,es,0,aAe _ _ _,hes,Nat.zero_le _,hl⟩
theorem arg_ints {P:Program} {t te:TypeId} {x:V} (hu:P.underlying t=some (.slice te)) (he:P.underlying te=some (.int .i64)) (hc:P.cellsOf te=1) (h:ArgT P t x):∃ es,x=.lst 1 es∧∀ e,e∈es→∃ m,e=.int .i64 m:=by
 obtain ⟨n,hn⟩:=aNx (by simp [isAg,hu]) h
 cases n with
 | zero=>exact (aKu hn).elim
 | succ n =>
   simp only [VT,hu,hc] at hn
   obtain ⟨es,h1,h2⟩:=hn
   simp only [List.cons.injEq,and_true] at h1
   refine ⟨es,h1,fun e hx=>?_⟩
   obtain ⟨ys,h3,h4,h5⟩:=h2 e hx
   have ha:isAg P te=false:=by simp [isAg,he]
   cases n with
   | zero=>exact (aKu h5).elim
   | succ n =>
     simp only [VT,he] at h5
     obtain ⟨m,h6,-⟩:=h5
     subst h6
     exact ⟨m,by rw [h3,ha]; rfl⟩
end Go.Ab
namespace Go.Ab
variable {P:Program} {F T:Nat→Nat}
def aAz:Nat→Nat
 | 0=>4
 | d+1=>3*aAz d+60
theorem aKn {d:Nat} (h:d≤8):aAz d≤4000000:=by
 have:d=0∨d=1∨d=2∨d=3∨d=4∨d=5∨d=6∨d=7∨d=8:=by omega
 rcases this with rfl | rfl | rfl | rfl | rfl | rfl | rfl | rfl | rfl <;> decide
structure TC2 (P:Program) (F T:Nat→Nat):Prop extends TC P F T where
 h40:Is40 P F T
 h63:Is63 P F T
 h93:Is93 P F T
 h112:bIy P F T
theorem n112 (K:TC2 P F T) {L:Heap} {nx p:Nat} (h:TB T L p) (hp:p<nx):ECall P (F 112) [.ptr p 0] L nx (TS T L nx p 4):=by
 refine aA0 [] K.h112 (by simp) ?_
 simp only [c112,push_cast,seval,-Nat.reducePow]
 refine aAa (n47 K.toTC h (nx:=nx+12) (by omega) 4 _ (by rfl) (by decide) (by decide) (by rfl)) ?_
 rintro v L1 n1 ⟨q,rfl,hq,hT⟩
 have z:=hT.dn (nx:=nx) (by omega)
 exact ⟨by have:=z.le; omega,q,rfl,hq,z.up (by omega)⟩
theorem n93 (K:TC2 P F T):∀ (d:Nat),d≤8→∀ {L:Heap} {nx p:Nat},TB T L p→p<nx→ECall P (F 93) [.ptr p 0,.int .i64 d] L nx (TS T L nx p (aAz d)):=by
 intro d
 induction d with
 | zero =>
   intro _ L nx p h hp
   refine aA0 [] K.h93 (by simp) ?_
   simp only [c93,push_cast,seval,-Nat.reducePow]
   refine aAa (n112 K h (by omega)) ?_
   rintro v L1 n1 ⟨q,rfl,hq,hT⟩
   have z:=hT.dn (nx:=nx) (by omega)
   exact ⟨by have:=z.le; omega,q,rfl,by simp only [aAz]; omega,z.up (by omega)⟩
 | succ d ih =>
   intro hd L nx p h hp
   have ih:=@ih (by omega)
   have hB:aAz d≤4000000:=aKn (by omega)
   have h0:¬ ((d:Nat):Int)+1≤0:=by omega
   have e1:((d:Nat):Int)+1-1=(d:Nat):=by omega
   refine aA0 [] K.h93 (by simp) ?_
   simp only [c93,push_cast,seval,-Nat.reducePow,h0,e1]
   refine ⟨by omega,?_⟩
   refine aAa (n46 K.toTC h (by omega) 24 (by omega) (by omega)) ?_
   rintro v L0 n0 ⟨r,rfl,hr,hT⟩
   have z0:=hT.dn (nx:=nx) (by omega)
   have hr24:r=0∨r=1∨r=2∨r=3∨r=4∨r=5∨r=6∨r=7∨r=8∨r=9∨r=10∨r=11∨r=12∨r=13∨r=14∨r=15∨r=16∨r=17∨r=18∨r=19∨r=20∨r=21∨r=22∨r=23:=by omega
   rcases hr24 with rfl | rfl | rfl | rfl | rfl | rfl | rfl | rfl | rfl | rfl | rfl | rfl | rfl | rfl | rfl | rfl | rfl | rfl | rfl | rfl | rfl | rfl | rfl | rfl
   ·simp only [push_cast,seval,-Nat.reducePow,e1]
    refine aAa (n47 K.toTC z0.tb (by have:=z0.le; omega) 17 _ (by simp [aDx]) (by simp) (by simp) (by simp [V.imms,V.imm])) ?_
    rintro v1 L1 n1 ⟨q1,rfl,hq1,hT1⟩
    have z1:=z0.trans (hT1.dn (by omega))
    try simp only [push_cast,seval,-Nat.reducePow,e1]
    repeat (refine And.intro (by first | omega | (simp only [List.length_append,List.length_cons,List.length_nil]; omega)) ?_)
    refine aAa (ih z1.tb (by have:=z1.le; omega)) ?_
    rintro v2 L2 n2 ⟨q2,rfl,hq2,hT2⟩
    have z2:=z1.trans (hT2.dn (by omega))
    try simp only [push_cast,seval,-Nat.reducePow,e1]
    repeat (refine And.intro (by first | omega | (simp only [List.length_append,List.length_cons,List.length_nil]; omega)) ?_)
    refine aAa (n47 K.toTC z2.tb (by have:=z2.le; omega) 17 _ (by simp [aDx]) (by simp) (by simp) (by simp [V.imms,V.imm])) ?_
    rintro v3 L3 n3 ⟨q3,rfl,hq3,hT3⟩
    have z3:=z2.trans (hT3.dn (by omega))
    try simp only [push_cast,seval,-Nat.reducePow,e1]
    repeat (refine And.intro (by first | omega | (simp only [List.length_append,List.length_cons,List.length_nil]; omega)) ?_)
    refine aAa (ih z3.tb (by have:=z3.le; omega)) ?_
    rintro v4 L4 n4 ⟨q4,rfl,hq4,hT4⟩
    have z4:=z3.trans (hT4.dn (by omega))
    try simp only [push_cast,seval,-Nat.reducePow,e1]
    repeat (refine And.intro (by first | omega | (simp only [List.length_append,List.length_cons,List.length_nil]; omega)) ?_)
    exact ⟨by have:=z4.le; omega,_,rfl,by simp only [aAz,List.length_append,List.length_cons,List.length_nil]; omega,z4.up (by omega)⟩
   ·simp only [push_cast,seval,-Nat.reducePow,e1]
    refine aAa (n47 K.toTC z0.tb (by have:=z0.le; omega) 17 _ (by simp [aDx]) (by simp) (by simp) (by simp [V.imms,V.imm])) ?_
    rintro v1 L1 n1 ⟨q1,rfl,hq1,hT1⟩
    have z1:=z0.trans (hT1.dn (by omega))
    try simp only [push_cast,seval,-Nat.reducePow,e1]
    repeat (refine And.intro (by first | omega | (simp only [List.length_append,List.length_cons,List.length_nil]; omega)) ?_)
    exact ⟨by have:=z1.le; omega,_,rfl,by simp only [aAz,List.length_append,List.length_cons,List.length_nil]; omega,z1.up (by omega)⟩
   ·simp only [push_cast,seval,-Nat.reducePow,e1]
    refine aAa (n47 K.toTC z0.tb (by have:=z0.le; omega) 17 _ (by simp [aDx]) (by simp) (by simp) (by simp [V.imms,V.imm])) ?_
    rintro v1 L1 n1 ⟨q1,rfl,hq1,hT1⟩
    have z1:=z0.trans (hT1.dn (by omega))
    try simp only [push_cast,seval,-Nat.reducePow,e1]
    repeat (refine And.intro (by first | omega | (simp only [List.length_append,List.length_cons,List.length_nil]; omega)) ?_)
    refine aAa (n47 K.toTC z1.tb (by have:=z1.le; omega) 17 _ (by simp [aDx]) (by simp) (by simp) (by simp [V.imms,V.imm])) ?_
    rintro v2 L2 n2 ⟨q2,rfl,hq2,hT2⟩
    have z2:=z1.trans (hT2.dn (by omega))
    try simp only [push_cast,seval,-Nat.reducePow,e1]
    repeat (refine And.intro (by first | omega | (simp only [List.length_append,List.length_cons,List.length_nil]; omega)) ?_)
    exact ⟨by have:=z2.le; omega,_,rfl,by simp only [aAz,List.length_append,List.length_cons,List.length_nil]; omega,z2.up (by omega)⟩
   ·simp only [push_cast,seval,-Nat.reducePow,e1]
    refine aAa (ih z0.tb (by have:=z0.le; omega)) ?_
    rintro v1 L1 n1 ⟨q1,rfl,hq1,hT1⟩
    have z1:=z0.trans (hT1.dn (by omega))
    try simp only [push_cast,seval,-Nat.reducePow,e1]
    repeat (refine And.intro (by first | omega | (simp only [List.length_append,List.length_cons,List.length_nil]; omega)) ?_)
    refine aAa (ih z1.tb (by have:=z1.le; omega)) ?_
    rintro v2 L2 n2 ⟨q2,rfl,hq2,hT2⟩
    have z2:=z1.trans (hT2.dn (by omega))
    try simp only [push_cast,seval,-Nat.reducePow,e1]
    repeat (refine And.intro (by first | omega | (simp only [List.length_append,List.length_cons,List.length_nil]; omega)) ?_)
    refine aAa (ih z2.tb (by have:=z2.le; omega)) ?_
    rintro v3 L3 n3 ⟨q3,rfl,hq3,hT3⟩
    have z3:=z2.trans (hT3.dn (by omega))
    try simp only [push_cast,seval,-Nat.reducePow,e1]
    repeat (refine And.intro (by first | omega | (simp only [List.length_append,List.length_cons,List.length_nil]; omega)) ?_)
    exact ⟨by have:=z3.le; omega,_,rfl,by simp only [aAz,List.length_append,List.length_cons,List.length_nil]; omega,z3.up (by omega)⟩
   ·simp only [push_cast,seval,-Nat.reducePow,e1]
    refine aAa (ih z0.tb (by have:=z0.le; omega)) ?_
    rintro v1 L1 n1 ⟨q1,rfl,hq1,hT1⟩
    have z1:=z0.trans (hT1.dn (by omega))
    try simp only [push_cast,seval,-Nat.reducePow,e1]
    repeat (refine And.intro (by first | omega | (simp only [List.length_append,List.length_cons,List.length_nil]; omega)) ?_)
    refine aAa (ih z1.tb (by have:=z1.le; omega)) ?_
    rintro v2 L2 n2 ⟨q2,rfl,hq2,hT2⟩
    have z2:=z1.trans (hT2.dn (by omega))
    try simp only [push_cast,seval,-Nat.reducePow,e1]
    repeat (refine And.intro (by first | omega | (simp only [List.length_append,List.length_cons,List.length_nil]; omega)) ?_)
    refine aAa (ih z2.tb (by have:=z2.le; omega)) ?_
    rintro v3 L3 n3 ⟨q3,rfl,hq3,hT3⟩
    have z3:=z2.trans (hT3.dn (by omega))
    try simp only [push_cast,seval,-Nat.reducePow,e1]
    repeat (refine And.intro (by first | omega | (simp only [List.length_append,List.length_cons,List.length_nil]; omega)) ?_)
    exact ⟨by have:=z3.le; omega,_,rfl,by simp only [aAz,List.length_append,List.length_cons,List.length_nil]; omega,z3.up (by omega)⟩
   ·simp only [push_cast,seval,-Nat.reducePow,e1]
    refine aAa (n112 K z0.tb (by have:=z0.le; omega)) ?_
    rintro v1 L1 n1 ⟨q1,rfl,hq1,hT1⟩
    have z1:=z0.trans (hT1.dn (by omega))
    try simp only [push_cast,seval,-Nat.reducePow,e1]
    repeat (refine And.intro (by first | omega | (simp only [List.length_append,List.length_cons,List.length_nil]; omega)) ?_)
    refine aAa (ih z1.tb (by have:=z1.le; omega)) ?_
    rintro v2 L2 n2 ⟨q2,rfl,hq2,hT2⟩
    have z2:=z1.trans (hT2.dn (by omega))
    try simp only [push_cast,seval,-Nat.reducePow,e1]
    repeat (refine And.intro (by first | omega | (simp only [List.length_append,List.length_cons,List.length_nil]; omega)) ?_)
    refine aAa (n47 K.toTC z2.tb (by have:=z2.le; omega) 17 _ (by simp [aDx]) (by simp) (by simp) (by simp [V.imms,V.imm])) ?_
    rintro v3 L3 n3 ⟨q3,rfl,hq3,hT3⟩
    have z3:=z2.trans (hT3.dn (by omega))
    try simp only [push_cast,seval,-Nat.reducePow,e1]
    repeat (refine And.intro (by first | omega | (simp only [List.length_append,List.length_cons,List.length_nil]; omega)) ?_)
    exact ⟨by have:=z3.le; omega,_,rfl,by simp only [aAz,List.length_append,List.length_cons,List.length_nil]; omega,z3.up (by omega)⟩
   ·simp only [push_cast,seval,-Nat.reducePow,e1]
    refine aAa (n47 K.toTC z0.tb (by have:=z0.le; omega) 17 _ (by simp [aDx]) (by simp) (by simp) (by simp [V.imms,V.imm])) ?_
    rintro v1 L1 n1 ⟨q1,rfl,hq1,hT1⟩
    have z1:=z0.trans (hT1.dn (by omega))
    try simp only [push_cast,seval,-Nat.reducePow,e1]
    repeat (refine And.intro (by first | omega | (simp only [List.length_append,List.length_cons,List.length_nil]; omega)) ?_)
    refine aAa (ih z1.tb (by have:=z1.le; omega)) ?_
    rintro v2 L2 n2 ⟨q2,rfl,hq2,hT2⟩
    have z2:=z1.trans (hT2.dn (by omega))
    try simp only [push_cast,seval,-Nat.reducePow,e1]
    repeat (refine And.intro (by first | omega | (simp only [List.length_append,List.length_cons,List.length_nil]; omega)) ?_)
    exact ⟨by have:=z2.le; omega,_,rfl,by simp only [aAz,List.length_append,List.length_cons,List.length_nil]; omega,z2.up (by omega)⟩
   ·simp only [push_cast,seval,-Nat.reducePow,e1]
    refine aAa (n47 K.toTC z0.tb (by have:=z0.le; omega) 17 _ (by simp [aDx]) (by simp) (by simp) (by simp [V.imms,V.imm])) ?_
    rintro v1 L1 n1 ⟨q1,rfl,hq1,hT1⟩
    have z1:=z0.trans (hT1.dn (by omega))
    try simp only [push_cast,seval,-Nat.reducePow,e1]
    repeat (refine And.intro (by first | omega | (simp only [List.length_append,List.length_cons,List.length_nil]; omega)) ?_)
    refine aAa (ih z1.tb (by have:=z1.le; omega)) ?_
    rintro v2 L2 n2 ⟨q2,rfl,hq2,hT2⟩
    have z2:=z1.trans (hT2.dn (by omega))
    try simp only [push_cast,seval,-Nat.reducePow,e1]
    repeat (refine And.intro (by first | omega | (simp only [List.length_append,List.length_cons,List.length_nil]; omega)) ?_)
    exact ⟨by have:=z2.le; omega,_,rfl,by simp only [aAz,List.length_append,List.length_cons,List.length_nil]; omega,z2.up (by omega)⟩
   ·simp only [push_cast,seval,-Nat.reducePow,e1]
    refine aAa (n47 K.toTC z0.tb (by have:=z0.le; omega) 17 _ (by simp [aDx]) (by simp) (by simp) (by simp [V.imms,V.imm])) ?_
    rintro v1 L1 n1 ⟨q1,rfl,hq1,hT1⟩
    have z1:=z0.trans (hT1.dn (by omega))
    try simp only [push_cast,seval,-Nat.reducePow,e1]
    repeat (refine And.intro (by first | omega | (simp only [List.length_append,List.length_cons,List.length_nil]; omega)) ?_)
    exact ⟨by have:=z1.le; omega,_,rfl,by simp only [aAz,List.length_append,List.length_cons,List.length_nil]; omega,z1.up (by omega)⟩
   ·simp only [push_cast,seval,-Nat.reducePow,e1]
    refine aAa (n47 K.toTC z0.tb (by have:=z0.le; omega) 17 _ (by simp [aDx]) (by simp) (by simp) (by simp [V.imms,V.imm])) ?_
    rintro v1 L1 n1 ⟨q1,rfl,hq1,hT1⟩
    have z1:=z0.trans (hT1.dn (by omega))
    try simp only [push_cast,seval,-Nat.reducePow,e1]
    repeat (refine And.intro (by first | omega | (simp only [List.length_append,List.length_cons,List.length_nil]; omega)) ?_)
    exact ⟨by have:=z1.le; omega,_,rfl,by simp only [aAz,List.length_append,List.length_cons,List.length_nil]; omega,z1.up (by omega)⟩
   ·simp only [push_cast,seval,-Nat.reducePow,e1]
    refine aAa (n47 K.toTC z0.tb (by have:=z0.le; omega) 17 _ (by simp [aDx]) (by simp) (by simp) (by simp [V.imms,V.imm])) ?_
    rintro v1 L1 n1 ⟨q1,rfl,hq1,hT1⟩
    have z1:=z0.trans (hT1.dn (by omega))
    try simp only [push_cast,seval,-Nat.reducePow,e1]
    repeat (refine And.intro (by first | omega | (simp only [List.length_append,List.length_cons,List.length_nil]; omega)) ?_)
    exact ⟨by have:=z1.le; omega,_,rfl,by simp only [aAz,List.length_append,List.length_cons,List.length_nil]; omega,z1.up (by omega)⟩
   ·simp only [push_cast,seval,-Nat.reducePow,e1]
    refine aAa (n47 K.toTC z0.tb (by have:=z0.le; omega) 17 _ (by simp [aDx]) (by simp) (by simp) (by simp [V.imms,V.imm])) ?_
    rintro v1 L1 n1 ⟨q1,rfl,hq1,hT1⟩
    have z1:=z0.trans (hT1.dn (by omega))
    try simp only [push_cast,seval,-Nat.reducePow,e1]
    repeat (refine And.intro (by first | omega | (simp only [List.length_append,List.length_cons,List.length_nil]; omega)) ?_)
    refine aAa (n47 K.toTC z1.tb (by have:=z1.le; omega) 17 _ (by simp [aDx]) (by simp) (by simp) (by simp [V.imms,V.imm])) ?_
    rintro v2 L2 n2 ⟨q2,rfl,hq2,hT2⟩
    have z2:=z1.trans (hT2.dn (by omega))
    try simp only [push_cast,seval,-Nat.reducePow,e1]
    repeat (refine And.intro (by first | omega | (simp only [List.length_append,List.length_cons,List.length_nil]; omega)) ?_)
    exact ⟨by have:=z2.le; omega,_,rfl,by simp only [aAz,List.length_append,List.length_cons,List.length_nil]; omega,z2.up (by omega)⟩
   ·simp only [push_cast,seval,-Nat.reducePow,e1]
    refine aAa (n47 K.toTC z0.tb (by have:=z0.le; omega) 17 _ (by simp [aDx]) (by simp) (by simp) (by simp [V.imms,V.imm])) ?_
    rintro v1 L1 n1 ⟨q1,rfl,hq1,hT1⟩
    have z1:=z0.trans (hT1.dn (by omega))
    try simp only [push_cast,seval,-Nat.reducePow,e1]
    repeat (refine And.intro (by first | omega | (simp only [List.length_append,List.length_cons,List.length_nil]; omega)) ?_)
    exact ⟨by have:=z1.le; omega,_,rfl,by simp only [aAz,List.length_append,List.length_cons,List.length_nil]; omega,z1.up (by omega)⟩
   ·simp only [push_cast,seval,-Nat.reducePow,e1]
    refine aAa (n112 K z0.tb (by have:=z0.le; omega)) ?_
    rintro v1 L1 n1 ⟨q1,rfl,hq1,hT1⟩
    have z1:=z0.trans (hT1.dn (by omega))
    try simp only [push_cast,seval,-Nat.reducePow,e1]
    repeat (refine And.intro (by first | omega | (simp only [List.length_append,List.length_cons,List.length_nil]; omega)) ?_)
    refine aAa (n47 K.toTC z1.tb (by have:=z1.le; omega) 17 _ (by simp [aDx]; omega) (by simp) (by simp) (by simp [V.imms,V.imm])) ?_
    rintro v2 L2 n2 ⟨q2,rfl,hq2,hT2⟩
    have z2:=z1.trans (hT2.dn (by omega))
    try simp only [push_cast,seval,-Nat.reducePow,e1]
    repeat (refine And.intro (by first | omega | (simp only [List.length_append,List.length_cons,List.length_nil]; omega)) ?_)
    exact ⟨by have:=z2.le; omega,_,rfl,by simp only [aAz,List.length_append,List.length_cons,List.length_nil]; omega,z2.up (by omega)⟩
   ·simp only [push_cast,seval,-Nat.reducePow,e1]
    refine aAa (n47 K.toTC z0.tb (by have:=z0.le; omega) 17 _ (by simp [aDx]) (by simp) (by simp) (by simp [V.imms,V.imm])) ?_
    rintro v1 L1 n1 ⟨q1,rfl,hq1,hT1⟩
    have z1:=z0.trans (hT1.dn (by omega))
    try simp only [push_cast,seval,-Nat.reducePow,e1]
    repeat (refine And.intro (by first | omega | (simp only [List.length_append,List.length_cons,List.length_nil]; omega)) ?_)
    exact ⟨by have:=z1.le; omega,_,rfl,by simp only [aAz,List.length_append,List.length_cons,List.length_nil]; omega,z1.up (by omega)⟩
   ·simp only [push_cast,seval,-Nat.reducePow,e1]
    refine aAa (ih z0.tb (by have:=z0.le; omega)) ?_
    rintro v1 L1 n1 ⟨q1,rfl,hq1,hT1⟩
    have z1:=z0.trans (hT1.dn (by omega))
    try simp only [push_cast,seval,-Nat.reducePow,e1]
    repeat (refine And.intro (by first | omega | (simp only [List.length_append,List.length_cons,List.length_nil]; omega)) ?_)
    exact ⟨by have:=z1.le; omega,_,rfl,by simp only [aAz,List.length_append,List.length_cons,List.length_nil]; omega,z1.up (by omega)⟩
   ·simp only [push_cast,seval,-Nat.reducePow,e1]
    refine aAa (ih z0.tb (by have:=z0.le; omega)) ?_
    rintro v1 L1 n1 ⟨q1,rfl,hq1,hT1⟩
    have z1:=z0.trans (hT1.dn (by omega))
    try simp only [push_cast,seval,-Nat.reducePow,e1]
    repeat (refine And.intro (by first | omega | (simp only [List.length_append,List.length_cons,List.length_nil]; omega)) ?_)
    exact ⟨by have:=z1.le; omega,_,rfl,by simp only [aAz,List.length_append,List.length_cons,List.length_nil]; omega,z1.up (by omega)⟩
   ·simp only [push_cast,seval,-Nat.reducePow,e1]
    refine aAa (n47 K.toTC z0.tb (by have:=z0.le; omega) 17 _ (by simp [aDx]) (by simp) (by simp) (by simp [V.imms,V.imm])) ?_
    rintro v1 L1 n1 ⟨q1,rfl,hq1,hT1⟩
    have z1:=z0.trans (hT1.dn (by omega))
    try simp only [push_cast,seval,-Nat.reducePow,e1]
    repeat (refine And.intro (by first | omega | (simp only [List.length_append,List.length_cons,List.length_nil]; omega)) ?_)
    refine aAa (ih z1.tb (by have:=z1.le; omega)) ?_
    rintro v2 L2 n2 ⟨q2,rfl,hq2,hT2⟩
    have z2:=z1.trans (hT2.dn (by omega))
    try simp only [push_cast,seval,-Nat.reducePow,e1]
    repeat (refine And.intro (by first | omega | (simp only [List.length_append,List.length_cons,List.length_nil]; omega)) ?_)
    exact ⟨by have:=z2.le; omega,_,rfl,by simp only [aAz,List.length_append,List.length_cons,List.length_nil]; omega,z2.up (by omega)⟩
   ·simp only [push_cast,seval,-Nat.reducePow,e1]
    refine aAa (n47 K.toTC z0.tb (by have:=z0.le; omega) 17 _ (by simp [aDx]) (by simp) (by simp) (by simp [V.imms,V.imm])) ?_
    rintro v1 L1 n1 ⟨q1,rfl,hq1,hT1⟩
    have z1:=z0.trans (hT1.dn (by omega))
    try simp only [push_cast,seval,-Nat.reducePow,e1]
    repeat (refine And.intro (by first | omega | (simp only [List.length_append,List.length_cons,List.length_nil]; omega)) ?_)
    exact ⟨by have:=z1.le; omega,_,rfl,by simp only [aAz,List.length_append,List.length_cons,List.length_nil]; omega,z1.up (by omega)⟩
   ·simp only [push_cast,seval,-Nat.reducePow,e1]
    refine aAa (n47 K.toTC z0.tb (by have:=z0.le; omega) 17 _ (by simp [aDx]) (by simp) (by simp) (by simp [V.imms,V.imm])) ?_
    rintro v1 L1 n1 ⟨q1,rfl,hq1,hT1⟩
    have z1:=z0.trans (hT1.dn (by omega))
    try simp only [push_cast,seval,-Nat.reducePow,e1]
    repeat (refine And.intro (by first | omega | (simp only [List.length_append,List.length_cons,List.length_nil]; omega)) ?_)
    refine aAa (ih z1.tb (by have:=z1.le; omega)) ?_
    rintro v2 L2 n2 ⟨q2,rfl,hq2,hT2⟩
    have z2:=z1.trans (hT2.dn (by omega))
    try simp only [push_cast,seval,-Nat.reducePow,e1]
    repeat (refine And.intro (by first | omega | (simp only [List.length_append,List.length_cons,List.length_nil]; omega)) ?_)
    refine aAa (n47 K.toTC z2.tb (by have:=z2.le; omega) 17 _ (by simp [aDx]) (by simp) (by simp) (by simp [V.imms,V.imm])) ?_
    rintro v3 L3 n3 ⟨q3,rfl,hq3,hT3⟩
    have z3:=z2.trans (hT3.dn (by omega))
    try simp only [push_cast,seval,-Nat.reducePow,e1]
    repeat (refine And.intro (by first | omega | (simp only [List.length_append,List.length_cons,List.length_nil]; omega)) ?_)
    exact ⟨by have:=z3.le; omega,_,rfl,by simp only [aAz,List.length_append,List.length_cons,List.length_nil]; omega,z3.up (by omega)⟩
   ·simp only [push_cast,seval,-Nat.reducePow,e1]
    refine aAa (n47 K.toTC z0.tb (by have:=z0.le; omega) 17 _ (by simp [aDx]) (by simp) (by simp) (by simp [V.imms,V.imm])) ?_
    rintro v1 L1 n1 ⟨q1,rfl,hq1,hT1⟩
    have z1:=z0.trans (hT1.dn (by omega))
    try simp only [push_cast,seval,-Nat.reducePow,e1]
    repeat (refine And.intro (by first | omega | (simp only [List.length_append,List.length_cons,List.length_nil]; omega)) ?_)
    exact ⟨by have:=z1.le; omega,_,rfl,by simp only [aAz,List.length_append,List.length_cons,List.length_nil]; omega,z1.up (by omega)⟩
   ·simp only [push_cast,seval,-Nat.reducePow,e1]
    refine aAa (n112 K z0.tb (by have:=z0.le; omega)) ?_
    rintro v1 L1 n1 ⟨q1,rfl,hq1,hT1⟩
    have z1:=z0.trans (hT1.dn (by omega))
    try simp only [push_cast,seval,-Nat.reducePow,e1]
    repeat (refine And.intro (by first | omega | (simp only [List.length_append,List.length_cons,List.length_nil]; omega)) ?_)
    exact ⟨by have:=z1.le; omega,_,rfl,by simp only [aAz,List.length_append,List.length_cons,List.length_nil]; omega,z1.up (by omega)⟩
   ·simp only [push_cast,seval,-Nat.reducePow,e1]
    refine aAa (n112 K z0.tb (by have:=z0.le; omega)) ?_
    rintro v1 L1 n1 ⟨q1,rfl,hq1,hT1⟩
    have z1:=z0.trans (hT1.dn (by omega))
    try simp only [push_cast,seval,-Nat.reducePow,e1]
    repeat (refine And.intro (by first | omega | (simp only [List.length_append,List.length_cons,List.length_nil]; omega)) ?_)
    exact ⟨by have:=z1.le; omega,_,rfl,by simp only [aAz,List.length_append,List.length_cons,List.length_nil]; omega,z1.up (by omega)⟩
   ·simp only [push_cast,seval,-Nat.reducePow,e1]
    refine aAa (n112 K z0.tb (by have:=z0.le; omega)) ?_
    rintro v1 L1 n1 ⟨q1,rfl,hq1,hT1⟩
    have z1:=z0.trans (hT1.dn (by omega))
    try simp only [push_cast,seval,-Nat.reducePow,e1]
    repeat (refine And.intro (by first | omega | (simp only [List.length_append,List.length_cons,List.length_nil]; omega)) ?_)
    exact ⟨by have:=z1.le; omega,_,rfl,by simp only [aAz,List.length_append,List.length_cons,List.length_nil]; omega,z1.up (by omega)⟩
end Go.Ab
namespace Go.Ab
variable {P:Program} {F T:Nat→Nat}
theorem n63 (K:TC2 P F T) (d:Nat) (hd:d≤8) {L:Heap} {nx p:Nat} (h:TB T L p) (hp:p<nx):ECall P (F 63) [.ptr p 0,.int .i64 d] L nx (TS T L nx p (100+3*aAz d)):=by
 have hB:aAz d≤4000000:=aKn hd
 refine aA0 [] K.h63 (by simp) ?_
 simp only [c63,push_cast,seval,-Nat.reducePow]
 refine aAa (n47 K.toTC h (by omega) 100 _ (by simp [aDx]) (by simp) (by simp) (by simp [V.imms,V.imm])) ?_
 rintro v L0 n0 ⟨q,rfl,hq,hT⟩
 have z0:=hT.dn (nx:=nx) (by omega)
 simp only [push_cast,seval,-Nat.reducePow]
 refine aAg (fun m s=>∃ (j:Nat) (q:List UInt8),j≤3∧m=4-j∧s.env 0=.ptr p 0∧s.env 1=.int .i64 d∧s.env 5=.str q∧q.length≤100+j*aAz d∧s.env 6=.int .i64 j∧TD T L nx p s.L s.nx) 4 ⟨0,q,?_⟩ fun m s hJ=>?_
 ·simp only [push_cast,seval,-Nat.reducePow]
  exact ⟨by omega,z0.up (by omega)⟩
 ·obtain ⟨j,q,hj,rfl,j0,j1,j5,hq,j6,z⟩:=hJ
  have hle:=z.le
  simp only [push_cast,seval,-Nat.reducePow,j0,j1,j5,j6]
  refine aAa (n46 K.toTC z.tb (by omega) 3 (by omega) (by omega)) ?_
  rintro v L1 n1 ⟨r,rfl,hr,hT1⟩
  have z1:=z.trans (hT1.dn (by omega))
  have hle1:=z1.le
  by_cases hjr:j≤r
  ·have hjr':((j:Nat):Int)≤(r:Nat):=by omega
   have hj2:j=0∨j=1∨j=2:=by omega
   simp only [push_cast,seval,-Nat.reducePow,j0,j1,j5,j6,hjr']
   refine aAa (n93 K d hd z1.tb (by omega)) ?_
   rintro v L2 n2 ⟨q2,rfl,hq2,hT2⟩
   have z2:=z1.trans (hT2.dn (by omega))
   have hmul:(j+1)*aAz d=j*aAz d+aAz d:=by rw [Nat.succ_mul]
   have hjB:j*aAz d≤2*4000000:=Nat.mul_le_mul (by omega) hB
   simp only [push_cast,seval,-Nat.reducePow,j0,j1,j5,j6]
   exact ⟨by omega,⟨by omega,by omega⟩,4-(j+1),by omega,j+1,q++q2,by omega,rfl,rfl,by rw [List.length_append]; omega,by simp,z2.up (by omega)⟩
  ·have hjr':¬ ((j:Nat):Int)≤(r:Nat):=by omega
   have hjB:j*aAz d≤3*aAz d:=Nat.mul_le_mul_right _ hj
   simp only [push_cast,seval,-Nat.reducePow,j0,j1,j5,j6,hjr']
   exact ⟨by omega,q,rfl,by omega,z1.up (by omega)⟩
def bIj (d:Nat):Nat:=100+5*(500+3*aAz d)
theorem n40 (K:TC2 P F T) (d:Nat) (hd:d≤8) {L:Heap} {nx p:Nat} (h:TB T L p) (hp:p<nx):ECall P (F 40) [.ptr p 0,.int .i64 d] L nx (TS T L nx p (bIj d)):=by
 have hB:aAz d≤4000000:=aKn hd
 refine aA0 [] K.h40 (by simp) ?_
 simp only [c40,push_cast,seval,-Nat.reducePow]
 refine aAa (n47 K.toTC h (by omega) 100 _ (by simp [aDx]) (by simp) (by simp) (by simp [V.imms,V.imm])) ?_
 rintro v L0 n0 ⟨q,rfl,hq,hT⟩
 have z0:=hT.dn (nx:=nx) (by omega)
 have le0:=z0.le
 simp only [push_cast,seval,-Nat.reducePow]
 refine aAa (n46 K.toTC z0.tb (by omega) 5 (by omega) (by omega)) ?_
 rintro v L1 n1 ⟨r,rfl,hr,hT1⟩
 have z1:=z0.trans (hT1.dn (by omega))
 simp only [push_cast,seval,-Nat.reducePow]
 refine aAg (fun m s=>∃ (j:Nat) (q:List UInt8),j≤r+1∧m=6-j∧s.env 0=.ptr p 0∧s.env 1=.int .i64 d∧s.env 5=.str q∧q.length≤100+j*(500+3*aAz d)∧s.env 6=.int .i64 r∧s.env 7=.int .i64 j∧TD T L nx p s.L s.nx) 6 ⟨0,q,?_⟩ fun m s hJ=>?_
 ·simp only [push_cast,seval,-Nat.reducePow]
  exact ⟨by omega,z1.up (by omega)⟩
 ·obtain ⟨j,q,hj,rfl,j0,j1,j5,hq,j6,j7,z⟩:=hJ
  have hle:=z.le
  by_cases hjr:j≤r
  ·have hjr':((j:Nat):Int)≤(r:Nat):=by omega
   have hmul:(j+1)*(500+3*aAz d)=j*(500+3*aAz d)+(500+3*aAz d):=by rw [Nat.succ_mul]
   have hjB:j*(500+3*aAz d)≤4*(500+3*4000000):=Nat.mul_le_mul (by omega) (by omega)
   simp only [push_cast,seval,-Nat.reducePow,j0,j1,j5,j6,j7,hjr']
   refine aAo (fun s=>∃ q:List UInt8,s.env 0=.ptr p 0∧s.env 1=.int .i64 d∧s.env 5=.str q∧q.length≤101+j*(500+3*aAz d)∧s.env 6=.int .i64 r∧s.env 7=.int .i64 j∧TD T L nx p s.L s.nx) ?_ ?_
   ·by_cases hj0:0<j
    ·have hj0':(0:Int)<((j:Nat):Int):=by omega
     simp only [push_cast,seval,-Nat.reducePow,j0,j1,j5,j6,j7,hj0']
     exact ⟨by omega,q++[10],rfl,by simp only [List.length_append,List.length_cons,List.length_nil]; omega,z.up (by omega)⟩
    ·have hj0':¬ (0:Int)<((j:Nat):Int):=by omega
     simp only [push_cast,seval,-Nat.reducePow,j0,j1,j5,j6,j7,hj0']
     exact ⟨q,rfl,by omega,z.up (by omega)⟩
   ·rintro s2 ⟨q2,i0,i1,i5,hq2,i6,i7,z2⟩
    have le2:=z2.le
    simp only [push_cast,seval,-Nat.reducePow,i0,i1,i5,i6,i7]
    refine aAo (fun s=>∃ q:List UInt8,s.env 0=.ptr p 0∧s.env 1=.int .i64 d∧s.env 5=.str q∧q.length≤500+j*(500+3*aAz d)∧s.env 6=.int .i64 r∧s.env 7=.int .i64 j∧TD T L nx p s.L s.nx) ?_ ?_
    ·simp only [push_cast,seval,-Nat.reducePow,i0,i1,i5,i6,i7]
     refine aAa (n46 K.toTC z2.tb (by omega) 4 (by omega) (by omega)) ?_
     rintro v L3 n3 ⟨r3,rfl,hr3,hT3⟩
     have z3:=z2.trans (hT3.dn (by omega))
     have le3:=z3.le
     simp only [push_cast,seval,-Nat.reducePow,i0,i1,i5,i6,i7]
     refine aAf (fun g=>?_) (fun g=>?_)
     ·simp only [push_cast,seval,-Nat.reducePow,i0,i1,i5,i6,i7]
      refine aAa (n47 K.toTC z3.tb (by omega) 100 _ (by simp [aDx]) (by simp) (by simp) (by simp [V.imms,V.imm])) ?_
      rintro v L4 n4 ⟨q4,rfl,hq4,hT4⟩
      have z4:=z3.trans (hT4.dn (by omega))
      have le4:=z4.le
      simp only [push_cast,seval,-Nat.reducePow,i0,i1,i5,i6,i7]
      refine ⟨by omega,aAa (n47 K.toTC z4.tb (by omega) 100 _ (by simp [aDx]) (by simp) (by simp) (by simp [V.imms,V.imm])) ?_⟩
      rintro v L5 n5 ⟨q5,rfl,hq5,hT5⟩
      have z5:=z4.trans (hT5.dn (by omega))
      simp only [push_cast,seval,-Nat.reducePow,i0,i1,i5,i6,i7]
      have hlen:(q2++q4++q5++q4++[10]).length=q2.length+q4.length+q5.length+q4.length+1:=by simp [Nat.add_assoc]
      refine ⟨by simp only [List.length_append]; omega,by simp only [List.length_append]; omega,by simp only [List.length_append]; omega,q2++q4++q5++q4++[10],rfl,by rw [hlen]; omega,z5.up (by omega)⟩
     ·simp only [push_cast,seval,-Nat.reducePow,i0,i1,i5,i6,i7]
      exact ⟨q2,rfl,by omega,z3.up (by omega)⟩
    ·rintro s5 ⟨q5,k0,k1,k5,hq5,k6,k7,z5⟩
     have le5:=z5.le
     simp only [push_cast,seval,-Nat.reducePow,k0,k1,k5,k6,k7]
     refine aAa (n63 K d hd z5.tb (by omega)) ?_
     rintro v L6 n6 ⟨q6,rfl,hq6,hT6⟩
     have z6:=z5.trans (hT6.dn (by omega))
     simp only [push_cast,seval,-Nat.reducePow,k0,k1,k5,k6,k7]
     exact ⟨by omega,⟨by omega,by omega⟩,6-(j+1),by omega,j+1,q5++q6,by omega,rfl,rfl,by rw [List.length_append]; omega,by simp,z6.up (by omega)⟩
  ·have hjr':¬ ((j:Nat):Int)≤(r:Nat):=by omega
   have hjB:j*(500+3*aAz d)≤5*(500+3*aAz d):=Nat.mul_le_mul_right _ (by omega)
   simp only [push_cast,seval,-Nat.reducePow,j0,j1,j5,j6,j7,hjr']
   exact ⟨by omega,q,rfl,by unfold bIj; omega,z.up (by omega)⟩
end Go.Ab
