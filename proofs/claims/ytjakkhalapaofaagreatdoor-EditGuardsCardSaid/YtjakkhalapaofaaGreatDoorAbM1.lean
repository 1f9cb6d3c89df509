/- Several texts of one kind, merged. No condition. -/
import Derived.Test.YtjakkhalapaofaaGreatDoorAbZ1
import Derived.Test.YtjakkhalapaofaaGreatDoorAbK1
import Derived.Test.YtjakkhalapaofaaGreatDoorAbZ4
import Derived.Test.YtjakkhalapaofaaGreatDoorAbE5
import Derived.Test.YtjakkhalapaofaaGreatDoorAbR7
import Derived.Test.YtjakkhalapaofaaGreatDoorAbK4
set_option linter.unusedSimpArgs false
set_option linter.unusedVariables false
namespace Go.Ab
theorem aXs (l:List (List UInt8)):V.imms (l.map V.str)=true:=aJk _ _ fun t=>rfl
end Go.Ab
namespace Go.Ab
structure Un where
 title:List UInt8
 nth:Nat
 text:List UInt8
def Un.v (u:Un):V:=.agg [.str u.title,.int .i64 u.nth,.str u.text]
end Go.Ab
namespace Go.Ab
abbrev Un.nm (u:Un):List UInt8×Nat:=(u.title,u.nth)
end Go.Ab
namespace Go.Ab
end Go.Ab
namespace Go.Ab
end Go.Ab
namespace Go.Ab
end Go.Ab
namespace Go.Ab
end Go.Ab
namespace Go.Ab
end Go.Ab
namespace Go.Ab
end Go.Ab
namespace Go.Ab
variable {P:Program} {F T:Nat→Nat}
open Go.Lib
abbrev U3:=List UInt8×Int×List UInt8
def Un.u3 (u:Un):U3:=(u.title,u.nth,u.text)
end Go.Ab
namespace Go.Ab
variable {P:Program} {F T:Nat→Nat}
open Go.Lib
end Go.Ab
namespace Go.Ab
variable {P:Program} {F T:Nat→Nat}
open Go.Lib
section maps
variable {κ ν:Type} [DecidableEq κ]
end maps
end Go.Ab
namespace Go.Ab
variable {P:Program} {F T:Nat→Nat}
open Go.Lib
theorem bAt {L:Heap} {n i ty z sz:Nat} {es:List V} (h:L i=some (.vec ty z es)) (hi:V.imms es=true):view L (n+1) (.own i sz 0 es.length)=.lst sz es:=by
 simp only [view,h,Nat.zero_add,Nat.le_refl,if_true,List.drop_zero,List.take_length]
 rw [show es.map (view L n)=es.map id from List.map_congr_left fun x hx=>aHy n x (aBy hi hx),List.map_id]
end Go.Ab
namespace Go.Ab
variable {P:Program} {F T:Nat→Nat}
open Go.Lib
end Go.Ab
namespace Go.Ab
variable {P:Program} {F T:Nat→Nat}
open Go.Lib
def bMn (cs:List (List UInt8)):V:=ln 1 (cs.map .str)
def OwnS (T:Nat→Nat) (s:St) (N uid:Nat) (v:V) (cs:List (List UInt8)):Prop:=(cs=[]∧v=.nils)∨(cs≠[]∧∃ id,v=.own id 1 0 cs.length∧s.L id=some (.vec (T 21) 1 (cs.map .str))∧N≤id∧id<s.nx∧id≠uid)
theorem OwnS.mono {T:Nat→Nat} {s s':St} {N uid uid':Nat} {v:V} {cs:List (List UInt8)} (h:OwnS T s N uid v cs) (hL:∀ k,N≤k→k≠uid→k<s.nx→s'.L k=s.L k) (hn:s.nx≤s'.nx) (hu:uid'=uid∨s.nx≤uid'):OwnS T s' N uid' v cs:=by
 rcases h with h | ⟨h1,id,h2,h3,h4,h5,h6⟩
 ·exact .inl h
 ·refine .inr ⟨h1,id,h2,by rw [hL id h4 h6 h5]; exact h3,h4,by omega,?_⟩
  rcases hu with rfl | hu
  ·exact h6
  ·omega
theorem OwnS.one {T:Nat→Nat} {s:St} {N uid:Nat} {v:V} {cs:List (List UInt8)} (h:OwnS T s N uid v cs):v.one=true:=by
 rcases h with ⟨_,rfl⟩ | ⟨_,id,rfl,_⟩ <;> rfl
theorem OwnS.view {T:Nat→Nat} {s:St} {N uid:Nat} {v:V} {cs:List (List UInt8)} (h:OwnS T s N uid v cs) (L':Heap) (hL:∀ k,N≤k→L' k=s.L k) (n:Nat):Go.Ab.view L' (n+1) v=bMn cs:=by
 rcases h with ⟨rfl,rfl⟩ | ⟨h1,id,rfl,h3,h4,h5,h6⟩
 ·rfl
 ·have:=bAt (n:=n) (sz:=1) ((hL id h4).trans h3) (aXs cs)
  rw [List.length_map] at this
  rw [this]
  cases cs with
  | nil=>exact absurd rfl h1
  | cons c r=>rfl
end Go.Ab
namespace Go.Ab
variable {P:Program} {F T:Nat→Nat}
open Go.Lib
end Go.Ab
namespace Go.Ab
end Go.Ab
namespace Go.Ab
variable {P:Program} {F T:Nat→Nat}
open Go.Lib
end Go.Ab
