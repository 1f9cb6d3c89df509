/- Several texts of one kind, merged. No condition. -/
import Derived.Test.YtjakkhalapaofaaGreatDoorAbP4
set_option linter.unusedSimpArgs false
set_option linter.unusedVariables false
namespace Go.Ab
end Go.Ab
namespace Go.Ab
def Bt:List El→Prop
 | []=>False
 | [e]=>e.kind=0∧e.count=0∧e.args=[]
 | e::b::r=>(e.kind=1∨e.kind=3)∧Bt (b::r)
theorem Bt.ne {st:List El} (h:Bt st):st≠[]:=by rintro rfl; exact h
theorem Bt.cons {e:El} {r:List El} (hk:e.kind=1∨e.kind=3) (h:Bt r):Bt (e::r):=by
 cases r with
 | nil=>exact h.elim
 | cons b r=>exact ⟨hk,h⟩
theorem Bt.tail {e:El} {r:List El} (h:Bt (e::r)) (hr:r≠[]):(e.kind=1∨e.kind=3)∧Bt r:=by
 cases r with
 | nil=>exact absurd rfl hr
 | cons b r=>exact h
theorem Bt.add {st:List El} (h:Bt st) (n:Node):Bt (addS n st):=by
 match st,h with
 | [e],h =>
   have h1:¬ (e.kind=3∧e.args≠[]):=fun x=>by have:=h.1; omega
   simp only [addS,El.add,if_neg h1]
   exact h
 | e::b::r,h =>
   simp only [addS]
   refine ⟨?_,h.2⟩
   unfold El.add
   split <;> exact h.1
end Go.Ab
