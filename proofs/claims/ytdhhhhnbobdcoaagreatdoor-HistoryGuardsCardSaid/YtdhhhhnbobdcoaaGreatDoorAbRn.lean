/- The generator's Round, at four. No condition. -/
import Derived.Test.YtdhhhhnbobdcoaaGreatDoorAbE4
set_option linter.unusedSimpArgs false
set_option linter.unusedVariables false
namespace Go.Ab
variable {P:Program}
def cRnd:C :=
 .seq (.ops false [⟨none,[.mov (some 4) (.k (.int .i64 0))]⟩]) <|
 .seq (.ops false [⟨none,[.mov (some 6) (.t 0),.mov (some 7) (.t 1),.bin (some 8) .rem (.t 6) (.t 7),.mov (some 5) (.t 8)]⟩]) <|
 .seq (.seq (.ops false [⟨none,[.mov (some 9) (.t 5),.bin (some 10) .lss (.t 9) (.k (.int .i64 0))]⟩]) <|
 .cond (.t 10)
  (.ops false [⟨none,[.mov (some 11) (.t 5),.mov (some 12) (.t 1),.bin (some 13) .add (.t 11) (.t 12),.mov (some 5) (.t 13)]⟩])
  (.skip)) <|
 .seq (.ops false [⟨none,[.mov (some 14) (.t 5),.mov (some 4) (.t 14)]⟩]) <|
 .ret
def rndF (v:Int):Int:=if v.tmod 4<0 then v.tmod 4+4 else v.tmod 4
theorem bH2 (v:Int):rndF v=0∨rndF v=1∨rndF v=2∨rndF v=3:=by
 have h1:-4<v.tmod 4∧v.tmod 4<4:=⟨Int.lt_tmod_of_pos v (by decide),Int.tmod_lt_of_pos v (by decide)⟩
 unfold rndF
 split <;> omega
theorem bJi {f:Nat} (hf:Fn P f 15 [(4,none)] cRnd) (v:Int):PTr P f [.int .i64 v,.int .i64 4] (.int .i64 (rndF v)):=by
 refine ptrC [] hf (by simp) rfl ?_
 have h1:-4<v.tmod 4∧v.tmod 4<4:=⟨Int.lt_tmod_of_pos v (by decide),Int.tmod_lt_of_pos v (by decide)⟩
 unfold rndF
 simp only [cRnd,push_cast,seval,-Nat.reducePow]
 refine aAp (fun h=>?_) fun h=>?_
 ·simp only [push_cast,seval,-Nat.reducePow]
  rw [if_pos h]
  exact ⟨by omega,rfl⟩
 ·simp only [push_cast,seval,-Nat.reducePow]
  rw [if_neg h]
  rfl
end Go.Ab
