import Derived.Test.YtikmbicdjpkipaaGreatDoorAbK1
import Derived.Lib.Index
import Derived.Lib.Repeat
open List renaming isPrefixOf_iff_prefix->xY,prefix_iff_eq_take->wk
set_option linter.unusedSimpArgs false
set_option linter.unusedVariables false
namespace Go.Ab
def idxF(t:List UInt8):List UInt8->Nat->Option Nat
 | [],i=>if t=[]then some i else none
 | x::r,i=>if t.isPrefixOf (x::r)then some i else idxF t r (i+1)
def ln(z:Nat):List V->V
 | []=>.nils
 | x::r=>.lst z (x::r)
theorem aR8{z:Nat}{x:V}{r:List V}:ln z (x::r)=.lst z (x::r):=rfl
theorem aZb{z:Nat}:ln z []=.nils:=rfl
theorem aYf{z:Nat}{l:List V}(h:l≠[]):ln z l=.lst z l:=by cases l with|nil=>exact absurd rfl h|cons x r=>rfl
theorem aCy{z:Nat}{l:List V}:(ln z l).imm=V.imms l:=by cases l<;>simp[ln,V.imm,V.imms]
theorem aBl{z:Nat}{l:List V}:(ln z l).one=true:=by cases l<;>rfl
theorem aEh{z:Nat}{l:List V}:(ln z l).cells=[ln z l]:=by cases l<;>rfl
theorem aDj{z:Nat}{l:List V}:(ln z l).ncells=some 1:=by cases l<;>rfl
theorem bC1{z:Nat}{a b:List V}(h:V.leL a b):V.le (ln z a) (.lst z b):=by
 cases a with
 | nil=>simp only[V.leL]at h;subst h;simp[ln,V.le]
 | cons x r=>simp only[ln,V.le];exact⟨b,rfl,h⟩
attribute [push_cast] aR8 aZb aCy aBl aEh aDj
def c97(F T:Nat->Nat):C:=.n [.mov (some 4) (.k (.bool false))]<|.n [.m 5 0,.m 6 1,.c 7 (F 98) [.t 5,.t 6],.m 4 7]<|.ret
abbrev Is97(P:Program)(F T:Nat->Nat):Prop:=Fn P (F 97) 8 [(4,none)] (c97 F T)
def c98(F T:Nat->Nat):C:=.n [.mov (some 4) (.k (.bool false))]<|.seq (.ops false [⟨none,[.m 5 0,.ls 6 5,.m 7 1,.ls 8 7,.b 9 .geq 6 8,.m 10 9]⟩,⟨some (10,true),[.m 11 0,.m 12 1,.ls 13 12,.slcS (some 14) (.t 11) none (some (.t 13)),.m 15 1,.b 16 .eql 14 15]⟩,⟨none,[.pf 17 10 16,.m 4 17]⟩])<|.ret
abbrev Is98(P:Program)(F T:Nat->Nat):Prop:=Fn P (F 98) 18 [(4,none)] (c98 F T)
def c102(F T:Nat->Nat):C:=.n [.mov (some 6) (.i 0)]<|.seq (.n [.m 8 2,.m 7 8]<|.block 0<|.loop<|.seq (.n [.m 9 7,.m 10 1,.ls 11 10,.b 12 .add 9 11,.m 13 0,.ls 14 13,.b 15 .leq 12 14]<|.cond (.t 15) (.skip) (.exit 0))<|.seq (.block 1<|.n [.m 18 0,.m 19 7,.m 20 7,.m 21 1,.ls 22 21,.b 23 .add 20 22,.slcS (some 24) (.t 18) (some (.t 19)) (some (.t 23)),.m 25 1,.b 26 .eql 24 25]<|.cond (.t 26) (.n [.m 27 7,.m 6 27]<|.ret) (.skip))<|.o [.m 16 7,.bi 17 .add 16 1,.m 7 17])<|.n [.mov (some 6) (.k (.int .i64 (-1)))]<|.ret
abbrev aOs(P:Program)(F T:Nat->Nat):Prop:=Fn P (F 102) 28 [(6,none)] (c102 F T)
variable {P:Program} {F T:Nat->Nat}
theorem aFc(s t:List UInt8):t.isPrefixOf s=(decide (t.length<=s.length)&&decide (s.take t.length=t)):=by
 by_cases h:t <+: s
 .have h1:t.isPrefixOf s=true:=xY.2 h;rw[h1];simp[h.length_le];exact(wk.1 h).symm
 .have h1:t.isPrefixOf s=false:=by
   cases hb:t.isPrefixOf s with
   | false=>rfl
   | true=>exact absurd (xY.1 hb) h
  rw[h1]
  symm
  simp only[Bool.and_eq_false_iff,decide_eq_false_iff_not];right;intro e;exact h (wk.2 e.symm)
theorem t98(hf:Is98 P F T)(s t:List UInt8):PTr P (F 98) [.str s,.str t] (.bool (t.isPrefixOf s)):=by
 refine ptrC [] hf (by simp) rfl ?_;simp only[c98,push_cast,seval,-Nat.reducePow];refine aAy (λh=>?_) (λh=>?_)
 .have h':t.length<=s.length:=by omega
  simp only[push_cast,seval,-Nat.reducePow,view];exact⟨by omega,by rw[aFc];simp[h']⟩
 .have h':¬t.length<=s.length:=by omega
  simp only[push_cast,seval,-Nat.reducePow,view];rw[aFc];simp[h']
theorem t97(hf:Is97 P F T)(h98:Is98 P F T)(s t:List UInt8):PTr P (F 97) [.str s,.str t] (.bool (t.isPrefixOf s)):=by
 refine ptrC [] hf (by simp) rfl ?_;simp only[c97,push_cast,seval,-Nat.reducePow];refine aAa (t98 h98 s t) (by simp only[push_cast,seval,-Nat.reducePow]) (by simp only[push_cast,seval,-Nat.reducePow]) ?_;simp only[push_cast,seval,-Nat.reducePow,view]
end Go.Ab
namespace Go.Ab
open Go.RowKit
variable {P:Program} {F:Nat->Nat}
theorem vs2{vs:Array Value}{D:Nat->Prop}{w:World}{a b:V}(hl:[a,b].length=vs.size)
 (h:∀i x,[a,b][i]?=some x->Rep (λ_=>none) D w x (vs.getD i undef)):∃u v,vs=#[u,v]∧Rep (λ_=>none) D w a u∧Rep (λ_=>none) D w b v:=by
 refine⟨vs.getD 0 undef,vs.getD 1 undef,?_,h 0 a rfl,h 1 b rfl⟩;apply Array.ext
 .simpa using hl.symm
 .intro i h1 h2
  match i with
  | 0=>simp[Array.getD,show 0<vs.size by simpa using h1]
  | 1=>simp[Array.getD,show 1<vs.size by simpa using h1]
  | k+2=>exact absurd h2 (by simp)
end Go.Ab
