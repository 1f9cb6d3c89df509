/- Several texts of one kind, merged. No condition. -/
import Derived.Test.YtcmnepgnkcoiiaaGreatDoorAbR1
import Derived.Test.YtcmnepgnkcoiiaaGreatDoorAbR3
set_option linter.unusedSimpArgs false
set_option linter.unusedVariables false
namespace Go.Ab
def c39 (F T:Nat→Nat):C :=
 .seq (.ops false [⟨none,[.mov (some 2) (.k .nilp)]⟩]) <|
 .seq (.ops false [⟨none,[.mov (some 3) (.t 0),.build (some 4) [.nils,(.int .i64 0)] [(0,1,(.t 3))],.box 5 (T 10) (.t 4),.mov (some 2) (.t 5)]⟩]) <|
 .ret
abbrev Is39 (P:Program) (F T:Nat→Nat):Prop:=Fn P (F 39) 6 [(2,none)] (c39 F T)
def c46 (F T:Nat→Nat):C :=
 .seq (.ops false [⟨none,[.mov (some 4) (.k (.int .i64 0))]⟩]) <|
 .seq (.seq (.ops true [⟨none,[.mov (some 6) (.t 0),.nchk (some 7) (.t 6),.fadr (some 8) 1 (.t 7),.load (some 9) false 1 false (.t 8),.mov (some 10) (.t 0),.nchk (some 11) (.t 10),.fadr (some 12) 0 (.t 11),.load (some 13) false 1 false (.t 12),.len (some 14) false (.t 13),.bin (some 15) .geq (.t 9) (.t 14)]⟩]) <|
 .cond (.t 15)
 (.seq (.ops false [⟨none,[.mov (some 4) (.k (.int .i64 0))]⟩]) <|
 .ret)
 (.skip)) <|
 .seq (.ops true [⟨none,[.mov (some 16) (.t 0),.nchk (some 17) (.t 16),.fadr (some 18) 0 (.t 17),.load (some 19) false 1 false (.t 18),.mov (some 20) (.t 0),.nchk (some 21) (.t 20),.fadr (some 22) 1 (.t 21),.load (some 23) false 1 false (.t 22),.iadr (some 24) 1 (.t 19) (.t 23),.load (some 25) false 1 false (.t 24),.bin (some 26) .and (.t 25) (.k (.int .i64 16777215)),.mov (some 5) (.t 26)]⟩]) <|
 .seq (.ops false [⟨none,[.mov (some 27) (.t 0),.nchk (some 28) (.t 27),.fadr (some 29) 1 (.t 28),.load (some 30) false 1 false (.t 29),.bin (some 31) .add (.t 30) (.k (.int .i64 1)),.nchk (some 32) (.t 27),.fadr (some 33) 1 (.t 32),.store 1 (.t 33) (.t 31)]⟩]) <|
 .seq (.ops false [⟨none,[.mov (some 34) (.t 5),.mov (some 35) (.t 1),.bin (some 36) .rem (.t 34) (.t 35),.mov (some 4) (.t 36)]⟩]) <|
 .ret
abbrev Is46 (P:Program) (F T:Nat→Nat):Prop:=Fn P (F 46) 37 [(4,none)] (c46 F T)
def c47 (F T:Nat→Nat):C :=
 .seq (.ops false [⟨none,[.mov (some 4) (.k (.str []))]⟩]) <|
 .seq (.ops false [⟨none,[.mov (some 5) (.t 1),.mov (some 6) (.t 0),.mov (some 7) (.t 1),.len (some 8) false (.t 7),.ecall (some 9) 12 (F 46) [(.t 6),(.t 8)],.iadr (some 10) 1 (.t 5) (.t 9),.load (some 11) false 1 false (.t 10),.mov (some 4) (.t 11)]⟩]) <|
 .ret
abbrev Is47 (P:Program) (F T:Nat→Nat):Prop:=Fn P (F 47) 12 [(4,none)] (c47 F T)
end Go.Ab
namespace Go.Ab
end Go.Ab
namespace Go.Ab
variable {P:Program} {F T:Nat→Nat}
def TB (T:Nat→Nat) (L:Heap) (p:Nat):Prop:=∃ (es:List V) (a:Nat),L p=some (.box (T 10) [.lst 1 es,.int .i64 a])∧(∀ e,e∈es→∃ m,e=.int .i64 m)∧a≤es.length∧es.length<2^63
structure TD (T:Nat→Nat) (L:Heap) (nx p:Nat) (L':Heap) (nx':Nat):Prop where
 tb:TB T L' p
 le:nx≤nx'
 fr:∀ b,b<nx→b≠p→L' b=L b
theorem TD.trans {L L1 L2:Heap} {nx n1 n2 p:Nat} (h:TD T L nx p L1 n1) (k:TD T L1 n1 p L2 n2):TD T L nx p L2 n2 :=
 ⟨k.tb,Nat.le_trans h.le k.le,fun b hb hbp=>(k.fr b (Nat.lt_of_lt_of_le hb h.le) hbp).trans (h.fr b hb hbp)⟩
theorem TD.up {L L':Heap} {nx n' m p:Nat} (h:TD T L nx p L' n') (hm:n'≤m):TD T L nx p L' m:=⟨h.tb,Nat.le_trans h.le hm,h.fr⟩
theorem TD.dn {L L':Heap} {nx n' m p:Nat} (h:TD T L m p L' n') (hm:nx≤m):TD T L nx p L' n':=⟨h.tb,Nat.le_trans hm h.le,fun b hb=>h.fr b (Nat.lt_of_lt_of_le hb hm)⟩
structure TC (P:Program) (F T:Nat→Nat):Prop where
 h46:Is46 P F T
 h47:Is47 P F T
theorem n46 (K:TC P F T) {L:Heap} {nx p:Nat} (h:TB T L p) (hp:p<nx) (n:Nat) (hn:1≤n) (hn2:n≤100) :
 ECall P (F 46) [.ptr p 0,.int .i64 n] L nx (fun v L' nx'=>∃ r:Nat,v=.int .i64 r∧r<n∧TD T L nx p L' nx'):=by
 obtain ⟨es,a,hL,hes,ha,hl⟩:=h
 refine ecallC [] K.h46 (by simp) ?_
 by_cases hlt:a<es.length
 ·have h1:¬ ((es.length:Nat):Int)≤(a:Nat):=by omega
  obtain ⟨m,hm⟩:=hes (es[a]) (List.getElem_mem hlt)
  have hg:es.getD a .junk=.int .i64 m:=by rw [← hm]; simp [List.getD,hlt]
  obtain ⟨k,hk,hv⟩:=and_small m 16777215 (by omega)
  have hv':vbits .and .i64 m 16777215=(k:Int):=hv
  have hu:=fun (x:Option Blk) (M:Heap)=>upd_same M p x
  have ht:((k:Nat):Int).tmod (n:Nat)=((k % n:Nat):Int):=by rw [Int.tmod_eq_emod_of_nonneg (by omega)]; simp
  have hn0:¬ ((n:Nat):Int)=0:=by omega
  simp only [c46,push_cast,seval,-Nat.reducePow,hL,h1,hg,hv',ht,hu,hn0]
  have hmod:k % n<n:=Nat.mod_lt _ (by omega)
  refine ⟨hlt,⟨by omega,by omega⟩,by omega,k % n,by simp,hmod,⟨⟨es,a+1,by rw [hu]; simp,hes,by omega,hl⟩,by omega,fun b hb hbp=>upd_ne _ _ _ _ hbp⟩⟩
 ·have h1:((es.length:Nat):Int)≤(a:Nat):=by omega
  simp only [c46,push_cast,seval,-Nat.reducePow,hL,h1]
  exact ⟨by omega,0,by simp,by omega,⟨⟨es,a,hL,hes,ha,hl⟩,by omega,fun b _ _=>rfl⟩⟩
theorem ptr_lenA {f:Nat} {sz:Nat} {es:List V} {ys:List V} {r:V} (h:es.length<2^63→PTr P f (.lst sz es::ys) r):PTr P f (.lst sz es::ys) r:=by
 intro D w vs hD hg hn hr
 have h0:=hr 0 (.lst sz es) rfl
 have hl:es.length<2^63:=by
  revert h0
  generalize vs.getD 0 undef=v
  intro h0
  cases h0
  omega
 exact h hl D w vs hD hg hn hr
theorem ptr_len {f:Nat} {sz:Nat} {es:List V} {r:V} (h:es.length<2^63→PTr P f [.lst sz es] r):PTr P f [.lst sz es] r:=by
 intro D w vs hD hg hn hr
 have h0:=hr 0 (.lst sz es) rfl
 have hl:es.length<2^63:=by
  revert h0
  generalize vs.getD 0 undef=v
  intro h0
  cases h0
  omega
 exact h hl D w vs hD hg hn hr
theorem arg_ints {P:Program} {t te:TypeId} {x:V} (hu:P.underlying t=some (.slice te)) (he:P.underlying te=some (.int .i64)) (hc:P.cellsOf te=1) (h:ArgT P t x):∃ es,x=.lst 1 es∧∀ e,e∈es→∃ m,e=.int .i64 m:=by
 obtain ⟨n,hn⟩:=arg_one (by simp [isAg,hu]) h
 cases n with
 | zero=>exact (vt_zero hn).elim
 | succ n =>
   simp only [VT,hu,hc] at hn
   obtain ⟨es,h1,h2⟩:=hn
   simp only [List.cons.injEq,and_true] at h1
   refine ⟨es,h1,fun e hx=>?_⟩
   obtain ⟨ys,h3,h4,h5⟩:=h2 e hx
   have ha:isAg P te=false:=by simp [isAg,he]
   cases n with
   | zero=>exact (vt_zero h5).elim
   | succ n =>
     simp only [VT,he] at h5
     obtain ⟨m,h6,-⟩:=h5
     subst h6
     exact ⟨m,by rw [h3,ha]; rfl⟩
end Go.Ab
namespace Go.Ab
variable {P:Program} {F T:Nat→Nat}
end Go.Ab
namespace Go.Ab
variable {P:Program} {F T:Nat→Nat}
end Go.Ab
