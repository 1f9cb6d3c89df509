/- Several texts of one kind, merged. No condition. -/
import Derived.Test.YtcmnepgnkcoiiaaGreatDoorAbC4
import Derived.Test.YtcmnepgnkcoiiaaGreatDoorAbZ4
set_option linter.unusedSimpArgs false
set_option linter.unusedVariables false
namespace Go.Ab
variable {P:Program} {F T:Nat→Nat}
open Go.Lib
theorem t183 (hf:Is183 P F T) (h124:SectC P (F 124)) (S:StrC0 P F) (h128:Is128 P F T) (h132:Is132 P F T) (h141:Is141 P F T) (s name:List UInt8) (hs:s.length≤8192) :
 PTr P (F 183) [.str s,.str name] (.tup [.str (partF s name).1,.bool (partF s name).2]):=by
 have hl:=sect_len s
 have c1:=h124 s (by omega)
 have c2:=t128 h128 S ((sectF s).map Sec.q) name (by rw [List.length_map]; omega)
 rw [← secV_q] at c2
 refine ptrC [] hf (by simp) rfl ?_
 unfold partF
 have c3:=t132 h132 h141 h124 s (by omega) (findIx (trimS name wsp) ((sectF s).map Sec.q) 0).1
 generalize findIx (trimS name wsp) ((sectF s).map Sec.q) 0=y at *
 obtain ⟨i,b⟩:=y
 simp only [c183,push_cast,seval,-Nat.reducePow]
 refine callK_intro c1 (by simp only [push_cast,seval,-Nat.reducePow]) (by simp only [push_cast,seval,-Nat.reducePow,secV_imm]) ?_
 simp only [push_cast,seval,-Nat.reducePow]
 refine callK_intro c2 (by simp only [push_cast,seval,-Nat.reducePow,secV_imm]) (by simp only [push_cast,seval,-Nat.reducePow]) ?_
 cases b with
 | false =>
   simp only [push_cast,seval,-Nat.reducePow,view]
   try rfl
 | true =>
   simp only [push_cast,seval,-Nat.reducePow]
   refine callK_intro c3 (by simp only [push_cast,seval,-Nat.reducePow]) (by simp only [push_cast,seval,-Nat.reducePow]) ?_
   simp only [push_cast,seval,-Nat.reducePow,view]
   try rfl
end Go.Ab
namespace Go.Ab
variable {P:Program} {F T:Nat→Nat}
open Go.Lib
end Go.Ab
