/- Lowered code of the functions, by program. No condition. -/
import Derived.Test.YtcmnepgnkcoiiaaGreatDoorAbG13
set_option linter.unusedVariables false
namespace Go.Ab
def c214 (F T:Nat→Nat):C :=
 .n [.mov (some 2) (.k (.bool false))] <|
 .n [.m 9 0,.e 10 57 (F 39) [.t 9],.m 3 10] <|
 .seq (.gha (.frzb 4) <| .o [.m 11 3,.e 12 57 (F 207) [.t 11],.m 13 3,.e 14 57 (F 213) [.t 13],.alloc 4 (T 16) [.nils,.nils,.nils],.alloc 5 (T 17) [(.int .i64 0),(.str [])],.store 3 (.t 4) (.t 12),.store 2 (.t 5) (.t 14)]) <|
 .seq (.p [.load (some 15) true 3 true (.t 4),.m 16 3,.e 17 57 (F 208) [.t 16],.c 18 (F 209) [.t 15,.t 17],.m 6 18]) <|
 .n [.m 19 3,.e 20 57 (F 40) [.t 19,.i 1],.m 21 3,.e 22 57 (F 40) [.t 21,.i 1],.m 7 20,.m 8 22] <|
 .seqc (.n [.f 23 2 4,.l 24 23,.ll 25 24,.bi 26 .gtr 25 0] <|
 .cond (.t 26)
 (.o [.f 27 2 4,.l 28 27,.iadr (some 29) 5 (.t 28) (.i 0),.f 30 2 29,.load (some 31) false 2 true (.t 30),.store 2 (.t 5) (.t 31)])
 (.skip)) <|
 .seq (.ops true [⟨none,[.load (some 32) false 3 true (.t 4),.m 33 6,.load (some 34) false 2 true (.t 5),.m 35 7,.m 36 8,.c 37 (F 179) [.t 32,.t 33,.t 34,.t 35,.t 36],.load (some 38) false 3 true (.t 4),.m 39 6,.load (some 40) false 2 true (.t 5),.m 41 7,.m 42 8,.c 43 (F 198) [.t 38,.t 39,.t 40,.t 41,.t 42],.b 44 .eql 37 43,.m 45 44]⟩,
 ⟨some (45,true),[.load (some 46) false 3 true (.t 4),.m 47 6,.load (some 48) false 2 true (.t 5),.m 49 7,.m 50 7,.c 51 (F 179) [.t 46,.t 47,.t 48,.t 49,.t 50],.bi 52 .eql 51 1]⟩,
 ⟨none,[.pf 53 45 52,.m 54 53]⟩,
 ⟨some (54,true),[.c 55 (F 176) []]⟩,
 ⟨none,[.pf 56 54 55,.m 2 56]⟩]) <|
 .ret
abbrev bIw (P:Program) (F T:Nat→Nat):Prop:=Fn P (F 214) 57 [(2,none)] (c214 F T)
end Go.Ab
