/- Texts in which nothing is closed: one text. No condition. -/
import Derived.Test.YtdnhjbdnebokiaaGreatDoorAbP4
set_option linter.unusedSimpArgs false
set_option linter.unusedVariables false
namespace Go.Ab
def Tn (l:List Node):Prop:=∀ n,n∈l→∃ q,n=tx q
theorem Tn.nil:Tn []:=fun n h=>by simp at h
theorem Tn.app {a b:List Node} (ha:Tn a) (hb:Tn b):Tn (a++b):=fun n h=>by
 rw [List.mem_append] at h
 exact h.elim (ha n) (hb n)
theorem Tn.one (q:List UInt8):Tn [tx q]:=fun n h=>⟨q,by simpa using h⟩
theorem Tn.push {l:List Node} (h:Tn l) (s:List UInt8):Tn (aB7 l s):=by
 rcases List.eq_nil_or_concat l with rfl | ⟨d,n,rfl⟩
 ·exact Tn.one s
 ·rw [List.concat_eq_append] at h ⊢
  obtain ⟨q,rfl⟩:=h n (by simp)
  rw [aR4]
  exact Tn.app (fun m hm=>h m (by simp [hm])) (Tn.one _)
theorem Tn.add {l:List Node} (h:Tn l) (q:List UInt8):Tn (addN (tx q) l):=by
 have e:addN (tx q) l=if (tx q).text=[] then l else aB7 l (tx q).text:=if_pos rfl
 rw [e]
 by_cases hq:(tx q).text=[]
 ·rw [if_pos hq]; exact h
 ·rw [if_neg hq]; exact h.push q
def El.tn (e:El):Prop:=Tn e.list∧∀ a,a∈e.args→Tn a.nm∧Tn a.val
def Tok.open_ (t:Tok):Prop:=t.kind≠4∧t.kind≠6∧t.kind≠9∧t.kind≠10∧t.kind≠12
end Go.Ab
