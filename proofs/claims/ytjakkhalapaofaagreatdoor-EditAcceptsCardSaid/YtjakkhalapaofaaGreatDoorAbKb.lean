/- The made texts of one to three lines. No condition. -/
import Derived.Test.YtjakkhalapaofaaGreatDoorAbKa
set_option linter.unusedSimpArgs false
set_option linter.unusedVariables false
namespace Go.Ab
variable {P:Program}
def bLines:List (List UInt8):=[[111,110,101,10],[116,119,111,32,119,111,114,100,115,10],[116,104,114,101,101,10],[10],[102,111,117,114,32,52,10]]
def bdG (l:List Int):Nat→Nat→Int→List UInt8→List UInt8
 | 0,_,_,t=>t
 | k+1,a,s,t=>bdG l k (srA l a) (srS l a s) (t++bLines.getD (srV l a s 5).toNat [])
def bodyF (l:List Int):List UInt8:=bdG l (1+(srV l 0 (sdL l) 3).toNat) (srA l 0) (srS l 0 (sdL l)) []
theorem bLine_len (l:List Int) (a:Nat) (s:Int):1≤(bLines.getD (srV l a s 5).toNat []).length∧(bLines.getD (srV l a s 5).toNat []).length≤10:=by
 have h:=srV_in l a s (n:=5) (by decide)
 obtain ⟨i,hi⟩:∃ i,i=(srV l a s 5).toNat:=⟨_,rfl⟩
 rw [← hi]
 have h5:i<5:=by omega
 match i,h5 with
 | 0,_=>decide
 | 1,_=>decide
 | 2,_=>decide
 | 3,_=>decide
 | 4,_=>decide
theorem bdG_len (l:List Int):∀ (k a:Nat) (s:Int) (t:List UInt8),t.length+k≤(bdG l k a s t).length∧(bdG l k a s t).length≤t.length+10*k
 | 0,a,s,t=>by simp [bdG]
 | k+1,a,s,t=>by
   have h:=bdG_len l k (srA l a) (srS l a s) (t++bLines.getD (srV l a s 5).toNat [])
   have h2:=bLine_len l a s
   rw [bdG]
   rw [List.length_append] at h
   omega
theorem body_len (l:List Int):1≤(bodyF l).length∧(bodyF l).length≤30:=by
 have h:=srV_in l 0 (sdL l) (n:=3) (by decide)
 have h2:=bdG_len l (1+(srV l 0 (sdL l) 3).toNat) (srA l 0) (srS l 0 (sdL l)) []
 unfold bodyF
 simp only [List.length_nil] at h2
 omega
theorem srA_le {l:List Int} {a:Nat} (h:a≤l.length):srA l a≤l.length:=by
 unfold srA; split <;> omega
end Go.Ab
