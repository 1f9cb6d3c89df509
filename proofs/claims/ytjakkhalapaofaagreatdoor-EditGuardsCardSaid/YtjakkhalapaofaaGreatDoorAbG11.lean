/- Lowered code of the functions, by program. No condition. -/
import Derived.Test.YtjakkhalapaofaaGreatDoorAbZ1
set_option linter.unusedVariables false
namespace Go.Ab
def c183 (F T:Nat→Nat):C :=
 .n [.mov (some 4) (.s []),.mov (some 5) (.k (.bool false))] <|
 .n [.m 13 0,.c 14 (F 124) [.t 13],.m 12 14,.x 15 0 12,.x 16 1 12,.m 6 15,.m 7 16] <|
 .seq (.n [.m 17 7,.bi 18 .neq 17 0] <|
 .cond (.t 18)
 (.n [.mov (some 4) (.s []),.mov (some 5) (.k (.bool false))] <|
 .ret)
 (.skip)) <|
 .n [.m 20 6,.m 21 1,.c 22 (F 128) [.t 20,.t 21],.m 19 22,.x 23 0 19,.x 24 1 19,.m 8 23,.m 9 24] <|
 .seq (.n [.m 25 9,.un (some 26) .not (.t 25)] <|
 .cond (.t 26)
 (.n [.mov (some 4) (.s []),.mov (some 5) (.k (.bool false))] <|
 .ret)
 (.skip)) <|
 .n [.m 28 0,.m 29 8,.c 30 (F 132) [.t 28,.t 29],.m 27 30,.x 31 0 27,.x 32 1 27,.m 10 31,.m 11 32] <|
 .n [.m 33 10,.m 4 33,.mov (some 5) (.k (.bool true))] <|
 .ret
abbrev bKj (P:Program) (F T:Nat→Nat):Prop:=Fn P (F 183) 34 [(4,none),(5,none)] (c183 F T)
end Go.Ab
