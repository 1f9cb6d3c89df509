/- Several texts of one kind, merged. No condition. -/
import Derived.Test.YtjakkhalapaofaaGreatDoorAbM3
import Derived.Test.YtjakkhalapaofaaGreatDoorAbM2
import Derived.Test.YtjakkhalapaofaaGreatDoorAbM1
import Derived.Test.YtjakkhalapaofaaGreatDoorAbR7
import Derived.Test.YtjakkhalapaofaaGreatDoorAbK4
set_option linter.unusedSimpArgs false
set_option linter.unusedVariables false
namespace Go.Ab
variable {P:Program} {F T:Nat→Nat}
open Go.Lib
def confV (cs:List (List UInt8)):V:=ln 1 (cs.map .str)
def OwnS (T:Nat→Nat) (s:St) (N uid:Nat) (v:V) (cs:List (List UInt8)):Prop:=(cs=[]∧v=.nils)∨(cs≠[]∧∃ id,v=.own id 1 0 cs.length∧s.L id=some (.vec (T 21) 1 (cs.map .str))∧N≤id∧id<s.nx∧id≠uid)
theorem OwnS.mono {T:Nat→Nat} {s s':St} {N uid uid':Nat} {v:V} {cs:List (List UInt8)} (h:OwnS T s N uid v cs) (hL:∀ k,N≤k→k≠uid→k<s.nx→s'.L k=s.L k) (hn:s.nx≤s'.nx) (hu:uid'=uid∨s.nx≤uid'):OwnS T s' N uid' v cs:=by
 rcases h with h | ⟨h1,id,h2,h3,h4,h5,h6⟩
 ·exact .inl h
 ·refine .inr ⟨h1,id,h2,by rw [hL id h4 h6 h5]; exact h3,h4,by omega,?_⟩
  rcases hu with rfl | hu
  ·exact h6
  ·omega
theorem OwnS.one {T:Nat→Nat} {s:St} {N uid:Nat} {v:V} {cs:List (List UInt8)} (h:OwnS T s N uid v cs):v.one=true:=by
 rcases h with ⟨_,rfl⟩ | ⟨_,id,rfl,_⟩ <;> rfl
theorem OwnS.view {T:Nat→Nat} {s:St} {N uid:Nat} {v:V} {cs:List (List UInt8)} (h:OwnS T s N uid v cs) (L':Heap) (hL:∀ k,N≤k→L' k=s.L k) (n:Nat):Go.Ab.view L' (n+1) v=confV cs:=by
 rcases h with ⟨rfl,rfl⟩ | ⟨h1,id,rfl,h3,h4,h5,h6⟩
 ·rfl
 ·have:=view_ownN (n:=n) (sz:=1) ((hL id h4).trans h3) (imms_strM cs)
  rw [List.length_map] at this
  rw [this]
  cases cs with
  | nil=>exact absurd rfl h1
  | cons c r=>rfl
end Go.Ab
namespace Go.Ab
variable {P:Program} {F T:Nat→Nat}
open Go.Lib
end Go.Ab
