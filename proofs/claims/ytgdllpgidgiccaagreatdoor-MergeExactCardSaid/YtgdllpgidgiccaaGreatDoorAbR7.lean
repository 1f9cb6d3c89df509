/- Several texts of one kind, merged. No condition. -/
import Derived.Test.YtgdllpgidgiccaaGreatDoorAbR1
import Derived.Test.YtgdllpgidgiccaaGreatDoorAbR3
set_option linter.unusedSimpArgs false
set_option linter.unusedVariables false
namespace Go.Ab
def c39 (F T:Nat→Nat):C :=
 .n [.mov (some 2) (.k .nilp)] <|
 .n [.m 3 0,.build (some 4) [.nils,(.int .i64 0)] [(0,1,(.t 3))],.box 5 (T 10) (.t 4),.m 2 5] <|
 .ret
abbrev Is39 (P:Program) (F T:Nat→Nat):Prop:=Fn P (F 39) 6 [(2,none)] (c39 F T)
def c46 (F T:Nat→Nat):C :=
 .n [.mov (some 4) (.i 0)] <|
 .seq (.seq (.p [.m 6 0,.nchk (some 7) (.t 6),.f 8 1 7,.l 9 8,.m 10 0,.nchk (some 11) (.t 10),.f 12 0 11,.l 13 12,.ll 14 13,.b 15 .geq 9 14]) <|
 .cond (.t 15)
 (.n [.mov (some 4) (.i 0)] <|
 .ret)
 (.skip)) <|
 .seq (.p [.m 16 0,.nchk (some 17) (.t 16),.f 18 0 17,.l 19 18,.m 20 0,.nchk (some 21) (.t 20),.f 22 1 21,.l 23 22,.ia 24 1 19 23,.l 25 24,.bi 26 .and 25 16777215,.m 5 26]) <|
 .n [.m 27 0,.nchk (some 28) (.t 27),.f 29 1 28,.l 30 29,.bi 31 .add 30 1,.nchk (some 32) (.t 27),.f 33 1 32,.store 1 (.t 33) (.t 31)] <|
 .n [.m 34 5,.m 35 1,.b 36 .rem 34 35,.m 4 36] <|
 .ret
abbrev Is46 (P:Program) (F T:Nat→Nat):Prop:=Fn P (F 46) 37 [(4,none)] (c46 F T)
def c47 (F T:Nat→Nat):C :=
 .n [.mov (some 4) (.s [])] <|
 .n [.m 5 1,.m 6 0,.m 7 1,.ll 8 7,.e 9 12 (F 46) [.t 6,.t 8],.ia 10 1 5 9,.l 11 10,.m 4 11] <|
 .ret
abbrev Is47 (P:Program) (F T:Nat→Nat):Prop:=Fn P (F 47) 12 [(4,none)] (c47 F T)
end Go.Ab
namespace Go.Ab
end Go.Ab
namespace Go.Ab
variable {P:Program} {F T:Nat→Nat}
def TB (T:Nat→Nat) (L:Heap) (p:Nat):Prop:=∃ (es:List V) (a:Nat),L p=some (.box (T 10) [.lst 1 es,.int .i64 a])∧(∀ e,e∈es→∃ m,e=.int .i64 m)∧a≤es.length∧es.length<2^63
structure TD (T:Nat→Nat) (L:Heap) (nx p:Nat) (L':Heap) (nx':Nat):Prop where
 tb:TB T L' p
 le:nx≤nx'
 fr:∀ b,b<nx→b≠p→L' b=L b
theorem TD.trans {L L1 L2:Heap} {nx n1 n2 p:Nat} (h:TD T L nx p L1 n1) (k:TD T L1 n1 p L2 n2):TD T L nx p L2 n2 :=
 ⟨k.tb,Nat.le_trans h.le k.le,fun b hb hbp=>(k.fr b (Nat.lt_of_lt_of_le hb h.le) hbp).trans (h.fr b hb hbp)⟩
theorem TD.up {L L':Heap} {nx n' m p:Nat} (h:TD T L nx p L' n') (hm:n'≤m):TD T L nx p L' m:=⟨h.tb,Nat.le_trans h.le hm,h.fr⟩
theorem TD.dn {L L':Heap} {nx n' m p:Nat} (h:TD T L m p L' n') (hm:nx≤m):TD T L nx p L' n':=⟨h.tb,Nat.le_trans hm h.le,fun b hb=>h.fr b (Nat.lt_of_lt_of_le hb hm)⟩
structure TC (P:Program) (F T:Nat→Nat):Prop where
 h46:Is46 P F T
 h47:Is47 P F T
theorem n46 (K:TC P F T) {L:Heap} {nx p:Nat} (h:TB T L p) (hp:p<nx) (n:Nat) (hn:1≤n) (hn2:n≤100) :
 ECall P (F 46) [.ptr p 0,.int .i64 n] L nx (fun v L' nx'=>∃ r:Nat,v=.int .i64 r∧r<n∧TD T L nx p L' nx'):=by
 obtain ⟨es,a,hL,hes,ha,hl⟩:=h
 refine aA2 [] K.h46 (by simp) ?_
 by_cases hlt:a<es.length
 ·have h1:¬ ((es.length:Nat):Int)≤(a:Nat):=by omega
  obtain ⟨m,hm⟩:=hes (es[a]) (List.getElem_mem hlt)
  have hg:es.getD a .junk=.int .i64 m:=by rw [← hm]; simp [List.getD,hlt]
  obtain ⟨k,hk,hv⟩:=aZz m 16777215 (by omega)
  have hv':aMn .and .i64 m 16777215=(k:Int):=hv
  have hu:=fun (x:Option Blk) (M:Heap)=>aAd M p x
  have ht:((k:Nat):Int).tmod (n:Nat)=((k % n:Nat):Int):=by rw [Int.tmod_eq_emod_of_nonneg (by omega)]; simp
  have hn0:¬ ((n:Nat):Int)=0:=by omega
  simp only [c46,push_cast,seval,-Nat.reducePow,hL,h1,hg,hv',ht,hu,hn0]
  have hmod:k % n<n:=Nat.mod_lt _ (by omega)
  refine ⟨hlt,⟨by omega,by omega⟩,by omega,k % n,by simp,hmod,⟨⟨es,a+1,by rw [hu]; simp,hes,by omega,hl⟩,by omega,fun b hb hbp=>aAc _ _ _ _ hbp⟩⟩
 ·have h1:((es.length:Nat):Int)≤(a:Nat):=by omega
  simp only [c46,push_cast,seval,-Nat.reducePow,hL,h1]
  exact ⟨by omega,0,by simp,by omega,⟨⟨es,a,hL,hes,ha,hl⟩,by omega,fun b _ _=>rfl⟩⟩
theorem n39 (hf:Is39 P F T) {L:Heap} {nx:Nat} (es:List V) (hi:V.imms es=true) (hes:∀ e,e∈es→∃ m,e=.int .i64 m) (hl:es.length<2^63) :
 ECall P (F 39) [.lst 1 es] L nx (fun v L' nx'=>∃ p,v=.ptr p 0∧p<nx'∧nx≤nx'∧TB T L' p):=by
 refine aA2 [] hf (by simp) ?_
 simp only [c39,push_cast,seval,-Nat.reducePow]
 exact ⟨by omega,nx+11,rfl,by omega,by omega,es,0,aAd _ _ _,hes,Nat.zero_le _,hl⟩
theorem arg_ints {P:Program} {t te:TypeId} {x:V} (hu:P.underlying t=some (.slice te)) (he:P.underlying te=some (.int .i64)) (hc:P.cellsOf te=1) (h:ArgT P t x):∃ es,x=.lst 1 es∧∀ e,e∈es→∃ m,e=.int .i64 m:=by
 obtain ⟨n,hn⟩:=aOx (by simp [isAg,hu]) h
 cases n with
 | zero=>exact (aLr hn).elim
 | succ n =>
   simp only [VT,hu,hc] at hn
   obtain ⟨es,h1,h2⟩:=hn
   simp only [List.cons.injEq,and_true] at h1
   refine ⟨es,h1,fun e hx=>?_⟩
   obtain ⟨ys,h3,h4,h5⟩:=h2 e hx
   have ha:isAg P te=false:=by simp [isAg,he]
   cases n with
   | zero=>exact (aLr h5).elim
   | succ n =>
     simp only [VT,he] at h5
     obtain ⟨m,h6,-⟩:=h5
     subst h6
     exact ⟨m,by rw [h3,ha]; rfl⟩
end Go.Ab
namespace Go.Ab
variable {P:Program} {F T:Nat→Nat}
end Go.Ab
namespace Go.Ab
variable {P:Program} {F T:Nat→Nat}
end Go.Ab
