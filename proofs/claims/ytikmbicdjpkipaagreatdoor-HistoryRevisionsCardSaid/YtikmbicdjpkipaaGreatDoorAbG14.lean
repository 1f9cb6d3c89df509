import Derived.Test.YtikmbicdjpkipaaGreatDoorAbG13
set_option linter.unusedVariables false
namespace Go.Ab
def c223(F T:Nat->Nat):C:=.n [.mov (some 4) (.k (.bool false))]<|.n [.m 5 0,.m 6 1,.e 7 9 (F 224) [.t 5,.t 6],.bi 8 .geq 7 0,.m 4 8]<|.ret
abbrev bEi(P:Program)(F T:Nat->Nat):Prop:=Fn P (F 223) 9 [(4,none)] (c223 F T)
def c224(F T:Nat->Nat):C:=.n [.mov (some 4) (.i 0)]<|.seq (.n [.m 6 0,.ll 7 6,.mov (some 8) (.i 0)]<|.block 0<|.loop<|.n [.b 9 .lss 8 7]<|.seq (.cond (.t 9) (.skip) (.exit 0))<|.seq (.block 1<|.n [.m 10 8,.m 5 10]<|.n [.m 11 1,.m 12 0,.m 13 5,.ia 14 1 12 13,.l 15 14,.vcall (some 16) 19 (.t 11) [.t 15]]<|.cond (.t 16) (.n [.m 17 5,.m 4 17]<|.ret) (.skip))<|.o [.bi 18 .add 8 1,.m 8 18])<|.n [.mov (some 4) (.k (.int .i64 (-1)))]<|.ret
abbrev aW6(P:Program)(F T:Nat->Nat):Prop:=Fn P (F 224) 19 [(4,none)] (c224 F T)
def c225(F T:Nat->Nat):C:=.n [.mov (some 5) (.k (.bool false))]<|.seq (.ops true [⟨none,[.l 6 1,.m 7 6]⟩,⟨some (7,true),[.m 8 0,.l 9 2,.b 10 .eql 8 9]⟩,⟨none,[.pf 11 7 10,.m 12 11]⟩,⟨some (12,false),[.m 13 0,.ls 14 13,.bi 15 .gtr 14 0,.m 16 15]⟩,⟨some (16,true),[.m 17 0,.idx (some 18) (.t 17) (.i 0),.bin (some 19) .eql (.t 18) (.k (.int .u8 64))]⟩,⟨some (12,false),[.pf 20 16 19,.m 21 20]⟩,⟨some (21,true),[.l 22 3,.m 23 0,.slcS (some 24) (.t 23) (some (.i 1)) none,.call (some 25) false (F 220) [.t 22,.t 24]]⟩,⟨some (12,false),[.pf 26 21 25]⟩,⟨none,[.pt 27 12 26,.m 5 27]⟩])<|.ret
abbrev bC4(P:Program)(F T:Nat->Nat):Prop:=Fn P (F 225) 28 [(5,none)] (c225 F T)
end Go.Ab
