/- Several texts of one kind, merged. No condition. -/
import Derived.Test.YtgdllpgidgiccaaGreatDoorAbM2
import Derived.Test.YtgdllpgidgiccaaGreatDoorAbM4
import Derived.Test.YtgdllpgidgiccaaGreatDoorAbR7
set_option linter.unusedSimpArgs false
set_option linter.unusedVariables false
namespace Go.Ab
def c277 (F T:Nat→Nat):C :=
 .n [.mov (some 2) (.s []),.mov (some 3) (.s []),.mov (some 4) (.s [])] <|
 .n [.m 7 0,.e 8 18 (F 39) [.t 7],.m 5 8] <|
 .n [.m 9 5,.e 10 18 (F 284) [.t 9,.i 14],.m 6 10] <|
 .n [.m 11 6,.m 12 5,.m 13 6,.e 14 18 (F 285) [.t 12,.t 13],.m 15 5,.m 16 6,.e 17 18 (F 285) [.t 15,.t 16],.m 2 11,.m 3 14,.m 4 17] <|
 .ret
abbrev bGi (P:Program) (F T:Nat→Nat):Prop:=Fn P (F 277) 18 [(2,none),(3,none),(4,none)] (c277 F T)
def c280 (F T:Nat→Nat):C :=
 .n [.mov (some 2) (.k (.bool false))] <|
 .n [.m 13 0,.e 14 84 (F 277) [.t 13],.m 12 14,.x 15 0 12,.x 16 1 12,.x 17 2 12,.m 3 15,.m 4 16,.m 5 17] <|
 .n [.m 19 3,.m 20 3,.m 21 4,.c 22 (F 257) [.t 19,.t 20,.t 21],.m 18 22,.x 23 0 18,.x 24 1 18,.alloc 6 (T 27) [(.str []),.nils],.store 2 (.t 6) (.t 23),.m 7 24] <|
 .n [.m 26 3,.m 27 4,.m 28 3,.c 29 (F 257) [.t 26,.t 27,.t 28],.m 25 29,.x 30 0 25,.x 31 1 25,.alloc 8 (T 27) [(.str []),.nils],.store 2 (.t 8) (.t 30),.m 9 31] <|
 .n [.m 33 3,.m 34 4,.m 35 4,.c 36 (F 257) [.t 33,.t 34,.t 35],.m 32 36,.x 37 0 32,.x 38 1 32,.alloc 10 (T 27) [(.str []),.nils],.store 2 (.t 10) (.t 37),.m 11 38] <|
 .seq (.ops false [⟨none,[.m 39 7,.bi 40 .eql 39 0,.m 41 40]⟩,
 ⟨some (41,true),[.m 42 9,.bi 43 .eql 42 0]⟩,
 ⟨none,[.pf 44 41 43,.m 45 44]⟩,
 ⟨some (45,true),[.m 46 11,.bi 47 .eql 46 0]⟩,
 ⟨none,[.pf 48 45 47,.m 49 48]⟩,
 ⟨some (49,true),[.f 50 0 6,.l 51 50,.m 52 4,.b 53 .eql 51 52]⟩,
 ⟨none,[.pf 54 49 53,.m 55 54]⟩,
 ⟨some (55,true),[.f 56 0 8,.l 57 56,.m 58 4,.b 59 .eql 57 58]⟩,
 ⟨none,[.pf 60 55 59,.m 61 60]⟩,
 ⟨some (61,true),[.f 62 0 10,.l 63 62,.m 64 4,.b 65 .eql 63 64]⟩,
 ⟨none,[.pf 66 61 65,.m 67 66]⟩,
 ⟨some (67,true),[.f 68 1 6,.l 69 68,.ll 70 69,.f 71 1 8,.l 72 71,.ll 73 72,.b 74 .add 70 73,.f 75 1 10,.l 76 75,.ll 77 76,.b 78 .add 74 77,.bi 79 .eql 78 0]⟩,
 ⟨none,[.pf 80 67 79,.m 81 80]⟩,
 ⟨some (81,true),[.c 82 (F 254) []]⟩,
 ⟨none,[.pf 83 81 82,.m 2 83]⟩]) <|
 .ret
abbrev bHg (P:Program) (F T:Nat→Nat):Prop:=Fn P (F 280) 84 [(2,none)] (c280 F T)
def c284 (F T:Nat→Nat):C :=
 .n [.mov (some 4) (.s [])] <|
 .n [.mov (some 5) (.s [])] <|
 .seq (.n [.mov (some 6) (.i 0)] <|
 .block 0 <|
 .loop <|
 .seq (.n [.m 7 6,.m 8 0,.m 9 1,.e 10 26 (F 46) [.t 8,.t 9],.b 11 .lss 7 10] <|
 .cond (.t 11)
 (.skip)
 (.exit 0)) <|
 .seq (.block 1 <|
 .o [.m 14 5,.m 15 0,.mkl (some 16) 1 [.s [97],.s [98],.s [99],.s [97],.s [],.s [61,61,32,115,32,61,61],.s [61,61,32,116,32,61,61],.s [61,61,61,32,115,32,61,61,61],.s [61,61,32,115,32,61,61]],.e 17 26 (F 47) [.t 15,.t 16],.b 18 .add 14 17,.bin (some 19) .add (.t 18) (.s [10]),.m 5 19]) <|
 .o [.m 12 6,.bi 13 .add 12 1,.m 6 13]) <|
 .seq (.n [.m 20 0,.e 21 26 (F 46) [.t 20,.i 4],.bi 22 .eql 21 0] <|
 .cond (.t 22)
 (.o [.m 23 5,.bin (some 24) .add (.t 23) (.s [101,110,100]),.m 5 24])
 (.skip)) <|
 .n [.m 25 5,.m 4 25] <|
 .ret
abbrev bDz (P:Program) (F T:Nat→Nat):Prop:=Fn P (F 284) 26 [(4,none)] (c284 F T)
def c285 (F T:Nat→Nat):C :=
 .n [.mov (some 4) (.s [])] <|
 .n [.m 9 1,.e 10 60 (F 171) [.t 9,.s [10]],.m 5 10] <|
 .seq (.n [.mov (some 6) (.i 0)] <|
 .block 0 <|
 .loop <|
 .seq (.n [.m 11 6,.m 12 0,.e 13 60 (F 46) [.t 12,.i 3],.bin (some 14) .add (.i 1) (.t 13),.b 15 .lss 11 14] <|
 .cond (.t 15)
 (.skip)
 (.exit 0)) <|
 .seq (.block 1 <|
 .n [.m 18 0,.m 19 5,.ll 20 19,.e 21 60 (F 46) [.t 18,.t 20],.m 7 21] <|
 .n [.m 22 0,.mkl (some 23) 1 [.s [120],.s [121],.s [61,61,32,115,32,61,61],.s [61,61,32,110,101,119,32,61,61],.s []],.e 24 60 (F 47) [.t 22,.t 23],.m 8 24] <|
 .n [.m 25 0,.e 26 60 (F 46) [.t 25,.i 3]] <|
 .block 2 <|
 .n [.bi 40 .eql 26 0,.m 39 40] <|
 .cond (.t 39)
 (.o [.m 41 5,.m 42 7,.m 43 8,.ia 44 1 41 42,.store 1 (.t 44) (.t 43)])
 (.n [.bi 46 .eql 26 1,.m 45 46] <|
 .cond (.t 45)
 (.p [.m 47 5,.m 48 7,.slc (some 49) 1 (.t 47) none (some (.t 48)),.app 50 (T 21) 1 (.k .nils) (.t 49),.m 51 8,.mkl (some 52) 1 [.t 51],.app 53 (T 21) 1 (.t 50) (.t 52),.m 54 5,.m 55 7,.slc (some 56) 1 (.t 54) (some (.t 55)) none,.app 57 (T 21) 1 (.t 53) (.t 56),.m 5 57])
 (.n [.m 27 5,.ll 28 27,.bi 29 .gtr 28 1] <|
 .cond (.t 29)
 (.p [.m 30 5,.m 31 7,.slc (some 32) 1 (.t 30) none (some (.t 31)),.app 33 (T 21) 1 (.k .nils) (.t 32),.m 34 5,.m 35 7,.bi 36 .add 35 1,.slc (some 37) 1 (.t 34) (some (.t 36)) none,.app 38 (T 21) 1 (.t 33) (.t 37),.m 5 38])
 (.skip)))) <|
 .o [.m 16 6,.bi 17 .add 16 1,.m 6 17]) <|
 .n [.m 58 5,.call (some 59) false (F 289) [.t 58,.s [10]],.m 4 59] <|
 .ret
abbrev bC0 (P:Program) (F T:Nat→Nat):Prop:=Fn P (F 285) 60 [(4,none)] (c285 F T)
end Go.Ab
namespace Go.Ab
variable {P:Program} {F T:Nat→Nat}
open Go.Lib
theorem bB6 {f:Nat} {args:List V} {r:V} {sz:Nat} {es:List V} (i:Nat) (hi:args[i]?=some (.lst sz es)) (h:es.length<2^63→PTr P f args r):PTr P f args r:=by
 intro D w vs hD hg hn hr
 have h0:=hr i _ hi
 have hl:es.length<2^63:=by
  revert h0
  generalize vs.getD i undef=v
  intro h0
  cases h0
  omega
 exact h hl D w vs hD hg hn hr
end Go.Ab
