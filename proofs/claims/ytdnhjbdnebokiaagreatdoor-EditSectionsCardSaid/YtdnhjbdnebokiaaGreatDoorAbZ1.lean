/- Several texts of one kind, merged. No condition. -/
import Derived.Test.YtdnhjbdnebokiaaGreatDoorAbR8
import Derived.Lib.SlTrimSet
import Derived.Test.YtdnhjbdnebokiaaGreatDoorAbR1
import Derived.KernelRfl
set_option linter.unusedSimpArgs false
set_option linter.unusedVariables false
namespace Go.Ab
def wsp:List UInt8:=[32,9]
def aA2 (l:List Node):List Bool:=l.flatMap fun n=>List.replicate n.src.length (decide (n.kind=1))
theorem aHj:∀ l:List Node,(aA2 l).length=(srcs l).length
 | []=>by simp [aA2,srcs]
 | n::r=>by
   have ih:=aHj r
   simp only [aA2] at ih
   simp [aA2,srcs,ih]
theorem aVf (a b:List Node):aA2 (a++b)=aA2 a++aA2 b:=by simp [aA2]
def aQk (s:List UInt8):Option (Nat×List UInt8) :=
 if runL 61 (Go.Lib.trimRightS s wsp)=0∨runL 61 (Go.Lib.trimRightS s wsp).reverse=0∨runL 61 (Go.Lib.trimRightS s wsp)=(Go.Lib.trimRightS s wsp).length then none
 else
  if Go.Lib.trimS (((Go.Lib.trimRightS s wsp).take ((Go.Lib.trimRightS s wsp).length-min 6 (min (runL 61 (Go.Lib.trimRightS s wsp)) (runL 61 (Go.Lib.trimRightS s wsp).reverse)))).drop (min 6 (min (runL 61 (Go.Lib.trimRightS s wsp)) (runL 61 (Go.Lib.trimRightS s wsp).reverse)))) wsp=[] then none
  else some (min 6 (min (runL 61 (Go.Lib.trimRightS s wsp)) (runL 61 (Go.Lib.trimRightS s wsp).reverse)),Go.Lib.trimS (((Go.Lib.trimRightS s wsp).take ((Go.Lib.trimRightS s wsp).length-min 6 (min (runL 61 (Go.Lib.trimRightS s wsp)) (runL 61 (Go.Lib.trimRightS s wsp).reverse)))).drop (min 6 (min (runL 61 (Go.Lib.trimRightS s wsp)) (runL 61 (Go.Lib.trimRightS s wsp).reverse)))) wsp)
structure Sec where
 lev:Nat
 title:List UInt8
 fr:Nat
 bd:Nat
 to:Nat
def aCm:List UInt8→Nat
 | []=>0
 | x::r=>if x=10 then 0 else aCm r+1
theorem aMu:∀ s:List UInt8,aCm s≤s.length
 | []=>Nat.le_refl _
 | x::r=>by
   have:=aMu r
   simp only [aCm,List.length_cons]
   split <;> omega
def aB2 (s:List UInt8) (i:Nat):Nat:=i+aCm (s.drop i)
theorem aEt {s:List UInt8} {i:Nat} (h:i≤s.length):i≤aB2 s i∧aB2 s i≤s.length:=by
 have:=aMu (s.drop i)
 rw [List.length_drop] at this
 unfold aB2
 omega
def aEi (s:List UInt8) (p:List Bool) (i:Nat):List Sec :=
 if ((p.take (aB2 s i)).drop i).all id then
  match aQk ((s.take (aB2 s i)).drop i) with
  | some (k,t)=>[⟨k,t,i,min (aB2 s i+1) s.length,s.length⟩]
  | none=>[]
 else []
def rawF (s:List UInt8) (p:List Bool):Nat→Nat→List Sec
 | 0,_=>[]
 | n+1,i=>if i<s.length then aEi s p i++rawF s p n (min (aB2 s i+1) s.length) else []
def toOf (x:Sec) (r:List Sec):Sec:={ x with to:=match r.find? (fun y=>decide (y.lev≤x.lev)) with | some y=>y.fr | none=>x.to }
def toF:List Sec→List Sec
 | []=>[]
 | x::r=>toOf x r::toF r
def aE9 (s:List UInt8):List Sec:=toF (rawF s (aA2 (aCn s)) (s.length+1) 0)
def Sec.v (x:Sec):V:=.agg [.int .i64 x.lev,.str x.title,.int .i64 x.fr,.int .i64 x.bd,.int .i64 x.to]
def secV (l:List Sec):List V:=l.map Sec.v
theorem aZx:∀ l:List Sec,(toF l).length=l.length
 | []=>rfl
 | x::r=>by simp [toF,aZx r]
theorem aN6 (s:List UInt8) (p:List Bool):∀ (n m i:Nat),s.length<n+i→s.length<m+i→rawF s p n i=rawF s p m i
 | 0,0,_,_,_=>rfl
 | 0,m+1,i,h,_=>by
   simp only [rawF]
   rw [if_neg (by omega)]
 | n+1,0,i,_,h=>by
   simp only [rawF]
   rw [if_neg (by omega)]
 | n+1,m+1,i,h1,h2=>by
   simp only [rawF]
   by_cases hi:i<s.length
   ·rw [if_pos hi,if_pos hi]
    have:=aEt (s:=s) (i:=i) (by omega)
    rw [aN6 s p n m (min (aB2 s i+1) s.length) (by omega) (by omega)]
   ·rw [if_neg hi,if_neg hi]
end Go.Ab
namespace Go.Ab
theorem aOp:∀ {s:List UInt8},aCm s<s.length→s[aCm s]?=some 10
 | [],h=>by simp at h
 | x::r,h=>by
   by_cases hx:x=10
   ·subst hx; simp [aCm]
   ·have e:aCm (x::r)=aCm r+1:=by simp [aCm,hx]
    rw [e] at h ⊢
    simp only [List.length_cons] at h
    rw [List.getElem?_cons_succ]
    exact aOp (by omega)
def LSt (s:List UInt8) (i:Nat):Prop:=i=0∨(0<i∧s[i-1]?=some 10)
structure RawOk (s:List UInt8) (i:Nat) (x:Sec):Prop where
 fr:i≤x.fr
 bd:x.fr<x.bd
 le:x.bd≤s.length
 to:x.to=s.length
 ls:LSt s x.fr
theorem bA8 {s:List UInt8} {p:List Bool} {i:Nat} (hi:i<s.length) (hl:LSt s i):∀ x,x∈aEi s p i→RawOk s i x∧x.fr=i∧x.bd=min (aB2 s i+1) s.length:=by
 intro x hx
 have:=aEt (s:=s) (i:=i) (by omega)
 simp only [aEi] at hx
 split at hx
 ·split at hx
  ·rw [List.mem_singleton] at hx
   subst hx
   exact ⟨⟨Nat.le_refl _,by show i<min _ _; omega,by show min _ _≤_; omega,rfl,hl⟩,rfl,rfl⟩
  ·simp at hx
 ·simp at hx
theorem bN4 {s:List UInt8} {i:Nat} (hi:i<s.length) (hn:min (aB2 s i+1) s.length<s.length):LSt s (min (aB2 s i+1) s.length):=by
 have h:=aEt (s:=s) (i:=i) (by omega)
 have e:min (aB2 s i+1) s.length=aB2 s i+1:=by omega
 rw [e] at hn ⊢
 refine .inr ⟨by omega,?_⟩
 have h2:aCm (s.drop i)<(s.drop i).length:=by
  rw [List.length_drop]; unfold aB2 at h hn; omega
 have h3:=aOp h2
 rw [List.getElem?_drop] at h3
 simpa [aB2] using h3
theorem bAo (s:List UInt8) (p:List Bool):∀ (n i:Nat),(i<s.length→LSt s i)→(∀ x,x∈rawF s p n i→RawOk s i x)∧(rawF s p n i).Pairwise (fun x y=>x.bd≤y.fr)
 | 0,i,_=>by simp [rawF]
 | n+1,i,hl=>by
   simp only [rawF]
   by_cases hi:i<s.length
   ·rw [if_pos hi]
    have h1:=bA8 (p:=p) hi (hl hi)
    have hle:=aEt (s:=s) (i:=i) (by omega)
    obtain ⟨h2,h3⟩:=bAo s p n (min (aB2 s i+1) s.length) (fun h=>bN4 hi h)
    refine ⟨fun x hx=>?_,?_⟩
    ·rw [List.mem_append] at hx
     rcases hx with hx | hx
     ·exact (h1 x hx).1
     ·have:=h2 x hx
      exact ⟨by have:=this.fr; omega,this.bd,this.le,this.to,this.ls⟩
    ·rw [List.pairwise_append]
     refine ⟨?_,h3,fun a ha b hb=>?_⟩
     ·simp only [aEi]
      split
      ·split <;> simp
      ·simp
     ·have:=(h1 a ha).2.2
      have:=(h2 b hb).fr
      omega
   ·rw [if_neg hi]; simp
structure SecOk (s:List UInt8) (x:Sec):Prop where
 bd:x.fr<x.bd
 le:x.bd≤x.to
 to:x.to≤s.length
 ls:LSt s x.fr
 e:x.to=s.length∨LSt s x.to
theorem aTi (x:Sec) (r:List Sec):((toOf x r).to=x.to∧∀ y,y∈r→x.lev<y.lev)∨∃ b z c,r=b++z::c∧(∀ y,y∈b→x.lev<y.lev)∧z.lev≤x.lev∧(toOf x r).to=z.fr:=by
 cases h:r.find? (fun y=>decide (y.lev≤x.lev)) with
 | none =>
   refine .inl ⟨by simp [toOf,h],fun y hy=>?_⟩
   have:=List.find?_eq_none.1 h y hy
   simpa using this
 | some z =>
   obtain ⟨hz,b,c,hr,hb⟩:=List.find?_eq_some_iff_append.1 h
   refine .inr ⟨b,z,c,hr,fun y hy=>?_,by simpa using hz,by simp [toOf,h]⟩
   have:=hb y hy
   simpa using this
theorem aQv:∀ {l:List Sec} {y:Sec},y∈toF l→∃ a y0 r,l=a++y0::r∧y=toOf y0 r
 | [],y,h=>by simp [toF] at h
 | x::l,y,h=>by
   simp only [toF,List.mem_cons] at h
   rcases h with rfl | h
   ·exact ⟨[],x,l,rfl,rfl⟩
   ·obtain ⟨a,y0,r,rfl,rfl⟩:=aQv h
    exact ⟨x::a,y0,r,rfl,rfl⟩
theorem bK8 {s:List UInt8} {l:List Sec} {i:Nat} (h:∀ x,x∈l→RawOk s i x) (hp:l.Pairwise (fun x y=>x.bd≤y.fr)):∀ x,x∈toF l→SecOk s x:=by
 intro x hx
 obtain ⟨a,y,r,rfl,rfl⟩:=aQv hx
 have hy:=h y (by simp)
 rcases aTi y r with ⟨h1,h2⟩ | ⟨b,z,c,rfl,h2,h3,h4⟩
 ·exact ⟨hy.bd,by rw [h1,hy.to]; exact hy.le,by rw [h1,hy.to]; exact Nat.le_refl _,hy.ls,.inl (by rw [h1,hy.to])⟩
 ·have hz:=h z (by simp)
  have hle:y.bd≤z.fr:=by
   rw [List.pairwise_append] at hp
   exact (List.pairwise_cons.1 hp.2.1).1 z (by simp)
  have:=hz.bd
  have:=hz.le
  exact ⟨hy.bd,by rw [h4]; exact hle,by rw [h4]; omega,hy.ls,.inr (by rw [h4]; exact hz.ls)⟩
theorem aLv (s:List UInt8):(∀ x,x∈rawF s (aA2 (aCn s)) (s.length+1) 0→RawOk s 0 x)∧(rawF s (aA2 (aCn s)) (s.length+1) 0).Pairwise (fun x y=>x.bd≤y.fr):=bAo s _ _ 0 (fun _=>.inl rfl)
theorem aMi (s:List UInt8):∀ x,x∈aE9 s→SecOk s x:=bK8 (aLv s).1 (aLv s).2
theorem aH3 (s:List UInt8) (p:List Bool):∀ (n i:Nat),(rawF s p n i).length≤s.length-i
 | 0,i=>by simp [rawF]
 | n+1,i=>by
   simp only [rawF]
   by_cases hi:i<s.length
   ·rw [if_pos hi]
    have:=aEt (s:=s) (i:=i) (by omega)
    have h2:=aH3 s p n (min (aB2 s i+1) s.length)
    have h1:(aEi s p i).length≤1:=by
     simp only [aEi]
     split
     ·split <;> simp
     ·simp
    rw [List.length_append]
    omega
   ·rw [if_neg hi]; simp
theorem aSq (s:List UInt8):(aE9 s).length≤s.length:=by
 have:=aH3 s (aA2 (aCn s)) (s.length+1) 0
 rw [aE9,aZx]; omega
end Go.Ab
namespace Go.Ab
def c124 (F T:Nat→Nat):C :=
 .n [.mov (some 2) (.k .nils),.mov (some 3) (.i 0)] <|
 .n [.m 19 0,.c 20 (F 136) [.t 19],.m 18 20,.x 21 0 18,.x 22 1 18,.m 4 21,.m 5 22] <|
 .seq (.n [.m 23 5,.bi 24 .neq 23 0] <|
 .cond (.t 24)
 (.n [.m 25 5,.mov (some 2) (.k .nils),.m 3 25] <|
 .ret)
 (.skip)) <|
 .seq (.gha (.own 6 (T 14) 5) <| .o [.mov (some 6) (.k .nils)]) <|
 .seq (.n [.mov (some 7) (.i 0)] <|
 .block 0 <|
 .loop <|
 .seq (.n [.m 26 7,.m 27 0,.ls 28 27,.b 29 .lss 26 28] <|
 .cond (.t 29)
 (.skip)
 (.exit 0)) <|
 .block 1 <|
 .n [.m 30 0,.ls 31 30,.m 8 31] <|
 .n [.m 32 0,.ls 33 32,.m 9 33] <|
 .seqc (.n [.m 34 0,.m 35 7,.slcS (some 36) (.t 34) (some (.t 35)) none,.c 37 (F 120) [.t 36,(.k (.int .u8 10))],.m 10 37] <|
 .n [.m 38 10,.bi 39 .geq 38 0] <|
 .cond (.t 39)
 (.o [.m 40 7,.m 41 10,.b 42 .add 40 41,.m 43 7,.m 44 10,.b 45 .add 43 44,.bi 46 .add 45 1,.m 8 42,.m 9 46])
 (.skip)) <|
 .n [.mov (some 11) (.k (.bool true))] <|
 .seq (.n [.m 47 7,.m 12 47] <|
 .block 2 <|
 .loop <|
 .seq (.n [.m 48 12,.m 49 8,.b 50 .lss 48 49] <|
 .cond (.t 50)
 (.skip)
 (.exit 2)) <|
 .seq (.block 3 <|
 .ops false [⟨none,[.m 53 11,.m 54 53]⟩,
 ⟨some (54,true),[.m 55 4,.m 56 12,.ia 57 1 55 56,.l 58 57]⟩,
 ⟨none,[.pf 59 54 58,.m 11 59]⟩]) <|
 .o [.m 51 12,.bi 52 .add 51 1,.m 12 52]) <|
 .seqc (.n [.m 61 0,.m 62 7,.m 63 8,.slcS (some 64) (.t 61) (some (.t 62)) (some (.t 63)),.c 65 (F 137) [.t 64],.m 60 65,.x 66 0 60,.x 67 1 60,.x 68 2 60,.m 13 66,.m 14 67,.m 15 68] <|
 .seq (.ops false [⟨none,[.m 69 15,.m 70 69]⟩,
 ⟨some (70,true),[.m 71 11]⟩,
 ⟨none,[.pf 72 70 71]⟩]) <|
 .cond (.t 72)
 (.o [.m 73 6,.m 74 13,.m 75 14,.m 76 7,.m 77 9,.m 78 0,.ls 79 78,.build (some 80) [(.int .i64 0),(.str []),(.int .i64 0),(.int .i64 0),(.int .i64 0)] [(0,1,(.t 74)),(1,1,(.t 75)),(2,1,(.t 76)),(3,1,(.t 77)),(4,1,(.t 79))],.mkl (some 81) 5 [.t 80],.app 82 (T 14) 5 (.t 73) (.t 81),.m 6 82])
 (.skip)) <|
 .o [.m 83 9,.m 7 83]) <|
 .seq (.n [.m 84 6,.ll 85 84,.mov (some 86) (.i 0)] <|
 .block 4 <|
 .loop <|
 .n [.b 87 .lss 86 85] <|
 .seq (.cond (.t 87)
 (.skip)
 (.exit 4)) <|
 .seq (.block 5 <|
 .n [.m 88 86,.m 16 88] <|
 .n [.m 89 16,.bi 90 .add 89 1,.m 17 90] <|
 .block 6 <|
 .loop <|
 .seq (.n [.m 91 17,.m 92 6,.ll 93 92,.b 94 .lss 91 93] <|
 .cond (.t 94)
 (.skip)
 (.exit 6)) <|
 .seq (.block 7 <|
 .seq (.p [.m 97 6,.m 98 17,.ia 99 5 97 98,.f 100 0 99,.l 101 100,.m 102 6,.m 103 16,.ia 104 5 102 103,.f 105 0 104,.l 106 105,.b 107 .leq 101 106]) <|
 .cond (.t 107)
 (.n [.m 108 6,.m 109 16,.m 110 6,.m 111 17,.ia 112 5 110 111,.f 113 2 112,.l 114 113,.ia 115 5 108 109,.f 116 4 115,.store 1 (.t 116) (.t 114)] <|
 .exit 6)
 (.skip)) <|
 .o [.m 95 17,.bi 96 .add 95 1,.m 17 96]) <|
 .o [.bi 117 .add 86 1,.m 86 117]) <|
 .n [.m 118 6,.m 2 118,.mov (some 3) (.i 0)] <|
 .ret
abbrev bIu (P:Program) (F T:Nat→Nat):Prop:=Fn P (F 124) 119 [(2,none),(3,none)] (c124 F T)
def c131 (F T:Nat→Nat):C :=
 .n [.mov (some 2) (.s []),.mov (some 3) (.i 0)] <|
 .n [.m 7 0,.c 8 (F 124) [.t 7],.m 6 8,.x 9 0 6,.x 10 1 6,.m 4 9,.m 5 10] <|
 .seq (.n [.m 11 5,.bi 12 .neq 11 0] <|
 .cond (.t 12)
 (.n [.m 13 5,.mov (some 2) (.s []),.m 3 13] <|
 .ret)
 (.skip)) <|
 .seq (.n [.m 14 4,.ll 15 14,.bi 16 .eql 15 0] <|
 .cond (.t 16)
 (.n [.m 17 0,.m 2 17,.mov (some 3) (.i 0)] <|
 .ret)
 (.skip)) <|
 .n [.m 18 0,.m 19 4,.iadr (some 20) 5 (.t 19) (.i 0),.f 21 2 20,.l 22 21,.slcS (some 23) (.t 18) none (some (.t 22)),.m 2 23,.mov (some 3) (.i 0)] <|
 .ret
abbrev bC9 (P:Program) (F T:Nat→Nat):Prop:=Fn P (F 131) 24 [(2,none),(3,none)] (c131 F T)
def c136 (F T:Nat→Nat):C :=
 .n [.mov (some 2) (.k .nils),.mov (some 3) (.i 0)] <|
 .n [.m 10 0,.c 11 (F 36) [.t 10],.m 9 11,.x 12 0 9,.x 13 1 9,.m 4 12,.m 5 13] <|
 .seq (.n [.m 14 5,.bi 15 .neq 14 0] <|
 .cond (.t 15)
 (.n [.m 16 5,.mov (some 2) (.k .nils),.m 3 16] <|
 .ret)
 (.skip)) <|
 .n [.m 17 0,.ls 18 17,.mk0 19 (T 15) 1 (.t 18),.m 6 19] <|
 .seq (.n [.m 20 4,.ll 21 20,.mov (some 22) (.i 0)] <|
 .block 0 <|
 .loop <|
 .n [.b 23 .lss 22 21] <|
 .seq (.cond (.t 23)
 (.skip)
 (.exit 0)) <|
 .seq (.block 1 <|
 .n [.ia 24 5 20 22,.load (some 25) false 5 true (.t 24),.alloc 8 (T 0) [(.int .i64 0),(.int .i64 0),(.str []),.nils,.nils],.store 5 (.t 8) (.t 25)] <|
 .n [.load (some 26) false 5 true (.t 8),.mkl (some 27) 5 [.t 26],.c 28 (F 2) [.t 27],.ls 29 28,.mov (some 30) (.i 0)] <|
 .block 2 <|
 .loop <|
 .n [.b 31 .lss 30 29] <|
 .seq (.cond (.t 31)
 (.skip)
 (.exit 2)) <|
 .seq (.block 3 <|
 .o [.m 32 6,.f 33 0 8,.l 34 33,.bi 35 .eql 34 1,.mkl (some 36) 1 [.t 35],.app 37 (T 15) 1 (.t 32) (.t 36),.m 6 37]) <|
 .o [.bi 38 .add 30 1,.m 30 38]) <|
 .o [.bi 39 .add 22 1,.m 22 39]) <|
 .n [.m 40 6,.m 2 40,.mov (some 3) (.i 0)] <|
 .ret
abbrev bH4 (P:Program) (F T:Nat→Nat):Prop:=Fn P (F 136) 41 [(2,none),(3,none)] (c136 F T)
def c137 (F T:Nat→Nat):C :=
 .n [.mov (some 2) (.i 0),.mov (some 3) (.s []),.mov (some 4) (.k (.bool false))] <|
 .n [.m 9 0,.c 10 (F 143) [.t 9,.s [32,9]],.m 0 10] <|
 .n [.m 11 0,.ls 12 11,.m 13 0,.c 14 (F 144) [.t 13,.s [61]],.ls 15 14,.b 16 .sub 12 15,.m 5 16] <|
 .n [.m 17 0,.ls 18 17,.m 19 0,.c 20 (F 143) [.t 19,.s [61]],.ls 21 20,.b 22 .sub 18 21,.m 6 22] <|
 .seq (.seq (.ops false [⟨none,[.m 23 5,.bi 24 .eql 23 0,.m 25 24]⟩,
 ⟨some (25,false),[.m 26 6,.bi 27 .eql 26 0]⟩,
 ⟨none,[.pt 28 25 27,.m 29 28]⟩,
 ⟨some (29,false),[.m 30 5,.m 31 0,.ls 32 31,.b 33 .eql 30 32]⟩,
 ⟨none,[.pt 34 29 33]⟩]) <|
 .cond (.t 34)
 (.n [.mov (some 2) (.i 0),.mov (some 3) (.s []),.mov (some 4) (.k (.bool false))] <|
 .ret)
 (.skip)) <|
 .n [.m 35 5,.m 36 6,.mx3 (some 37) false (.i 6) (.t 35) (.t 36),.m 7 37] <|
 .n [.m 38 0,.m 39 7,.m 40 0,.ls 41 40,.m 42 7,.b 43 .sub 41 42,.slcS (some 44) (.t 38) (some (.t 39)) (some (.t 43)),.c 45 (F 140) [.t 44,.s [32,9]],.m 8 45] <|
 .n [.m 46 7,.m 47 8,.m 48 8,.bin (some 49) .neq (.t 48) (.s []),.m 2 46,.m 3 47,.m 4 49] <|
 .ret
abbrev bF7 (P:Program) (F T:Nat→Nat):Prop:=Fn P (F 137) 50 [(2,none),(3,none),(4,none)] (c137 F T)
def c138 (F T:Nat→Nat):C :=
 .n [.mov (some 2) (.s [])] <|
 .seq (.block 0 <|
 .loop <|
 .seq (.seq (.ops false [⟨none,[.m 3 0,.ls 4 3,.bi 5 .gtr 4 0,.m 6 5]⟩,
 ⟨some (6,true),[.m 7 0,.m 8 0,.ls 9 8,.bi 10 .sub 9 1,.ix 11 7 10,.bin (some 12) .eql (.t 11) (.k (.int .u8 9)),.m 13 12]⟩,
 ⟨some (13,false),[.m 14 0,.m 15 0,.ls 16 15,.bi 17 .sub 16 1,.ix 18 14 17,.bin (some 19) .eql (.t 18) (.k (.int .u8 32))]⟩,
 ⟨some (6,true),[.pt 20 13 19]⟩,
 ⟨none,[.pf 21 6 20]⟩]) <|
 .cond (.t 21)
 (.skip)
 (.exit 0)) <|
 .block 1 <|
 .o [.m 22 0,.m 23 0,.ls 24 23,.bi 25 .sub 24 1,.slcS (some 26) (.t 22) none (some (.t 25)),.m 0 26]) <|
 .n [.m 27 0,.m 2 27] <|
 .ret
abbrev bOw (P:Program) (F T:Nat→Nat):Prop:=Fn P (F 138) 28 [(2,none)] (c138 F T)
def c139 (F T:Nat→Nat):C :=
 .n [.mov (some 4) (.k (.bool false))] <|
 .seq (.n [.m 6 0,.ll 7 6,.m 8 1,.ll 9 8,.b 10 .neq 7 9] <|
 .cond (.t 10)
 (.n [.mov (some 4) (.k (.bool false))] <|
 .ret)
 (.skip)) <|
 .seq (.n [.mov (some 5) (.i 0)] <|
 .block 0 <|
 .loop <|
 .seq (.n [.m 11 5,.m 12 0,.ll 13 12,.b 14 .lss 11 13] <|
 .cond (.t 14)
 (.skip)
 (.exit 0)) <|
 .seq (.block 1 <|
 .seq (.p [.m 17 0,.m 18 5,.ia 19 5 17 18,.load (some 20) false 5 true (.t 19),.m 21 1,.m 22 5,.ia 23 5 21 22,.load (some 24) false 5 true (.t 23),.eqA (some 25) true [0,1,0,0,0] (.t 20) (.t 24)]) <|
 .cond (.t 25)
 (.n [.mov (some 4) (.k (.bool false))] <|
 .ret)
 (.skip)) <|
 .o [.m 15 5,.bi 16 .add 15 1,.m 5 16]) <|
 .n [.mov (some 4) (.k (.bool true))] <|
 .ret
abbrev bOl (P:Program) (F T:Nat→Nat):Prop:=Fn P (F 139) 26 [(4,none)] (c139 F T)
end Go.Ab
namespace Go.Ab
variable {P:Program} {F T:Nat→Nat}
open Go.Lib
structure StrC0 (P:Program) (F:Nat→Nat):Prop where
 trim:∀ s:List UInt8,s.length≤9223372036854775807→PTr P (F 140) [.str s,.str [32,9]] (.str (trimS s wsp))
 right:∀ s cs:List UInt8,s.length≤100000→cs.length≤2→(∀ b,b∈cs→b.toNat<128)→PTr P (F 143) [.str s,.str cs] (.str (trimRightS s cs))
 left:∀ s cs:List UInt8,s.length≤100000→cs.length≤2→(∀ b,b∈cs→b.toNat<128)→PTr P (F 144) [.str s,.str cs] (.str (trimLeftS s cs))
 ib:∀ (s:List UInt8),PTr P (F 120) [.str s,.int .u8 10] (.int .i64 (indexByte s 10))
structure StrC (P:Program) (F:Nat→Nat):Prop extends StrC0 P F where
 suf:∀ s p:List UInt8,s.length≤100000→p.length≤100000→PTr P (F 142) [.str s,.str p] (.bool (hasSuffix s p))
theorem aL0 (s cs:List UInt8):(trimRightS s cs).length≤s.length:=by
 have:=(List.dropWhile_suffix (l:=s.reverse) (fun x=>cs.contains x)).length_le
 simp only [trimRightS,List.length_reverse] at this ⊢
 exact this
theorem aZ0 (s cs:List UInt8):(trimLeftS s cs).length≤s.length:=by
 exact (List.dropWhile_suffix (l:=s) (fun x=>cs.contains x)).length_le
theorem aMe {f:Nat} {s t r:List UInt8} (hr0:r.length<2^63) (h:∀ w:World,Calls P f #[.string ⟨s.toArray⟩,.string ⟨t.toArray⟩] w fun e w'=>e=.returned (.string ⟨r.toArray⟩)∧Go.RowKit.Below w.heap.size w w'):PTr P f [.str s,.str t] (.str r):=by
 intro D w vs hD hg hl hr
 obtain ⟨u,v,rfl,hu,hv⟩:=vs2 hl hr
 cases hu; cases hv
 refine (h w).mono ?_
 rintro e w' ⟨rfl,hb⟩
 exact ⟨_,rfl,hb,.str _ hr0⟩
theorem bA5
 (h1:∀ (s cs:ByteArray) (w:World),s.size≤9223372036854775807→cs.size<4294967281→(∀ (j:Nat) b,cs.data.toList[j]?=some b→b.toNat<128)→Calls P (F 140) #[.string s,.string cs] w fun e w'=>e=.returned (.string ⟨(trimS s.data.toList cs.data.toList).toArray⟩)∧Go.RowKit.Below w.heap.size w w')
 (h2:∀ (s cs:ByteArray) (w:World),s.size≤9223372036854775807→cs.size<4294967281→(∀ (j:Nat) b,cs.data.toList[j]?=some b→b.toNat<128)→Calls P (F 143) #[.string s,.string cs] w fun e w'=>e=.returned (.string ⟨(trimRightS s.data.toList cs.data.toList).toArray⟩)∧Go.RowKit.Below w.heap.size w w')
 (h3:∀ (s cs:ByteArray) (w:World),cs.size<4294967281→(∀ (j:Nat) b,cs.data.toList[j]?=some b→b.toNat<128)→Calls P (F 144) #[.string s,.string cs] w fun e w'=>e=.returned (.string ⟨(trimLeftS s.data.toList cs.data.toList).toArray⟩)∧Go.RowKit.Below w.heap.size w w')
 (h5:∀ (s:ByteArray) (c:Int) (w:World),Calls P (F 120) #[.string s,.int .u8 c] w fun e w'=>e=.returned (.int .i64 (indexByte s.data.toList c.toNat.toUInt8))∧w'=w):StrC0 P F:=by
 have mem:∀ {cs:List UInt8},(∀ b,b∈cs→b.toNat<128)→∀ (j:Nat) b,cs[j]?=some b→b.toNat<128:=fun h j b hb=>h b (List.mem_of_getElem? hb)
 refine ⟨fun s hs=>aMe (by have:=aZ0 (trimRightS s wsp) wsp; have:=aL0 s wsp; unfold trimS; omega) fun w=>?_,fun s cs hs hc ha=>aMe (by have:=aL0 s cs; omega) fun w=>?_,fun s cs hs hc ha=>aMe (by have:=aZ0 s cs; omega) fun w=>?_,fun s=>?_⟩
 ·exact h1 ⟨s.toArray⟩ ⟨([32,9]:List UInt8).toArray⟩ w (by simp [ByteArray.size]; omega) (by simp [ByteArray.size]) (mem (by decide))
 ·exact h2 ⟨s.toArray⟩ ⟨cs.toArray⟩ w (by simp [ByteArray.size]; omega) (by simp [ByteArray.size]; omega) (mem ha)
 ·exact h3 ⟨s.toArray⟩ ⟨cs.toArray⟩ w (by simp [ByteArray.size]; omega) (mem ha)
 ·intro D w vs hD hg hl hr
  obtain ⟨u,v,rfl,hu,hv⟩:=vs2 hl hr
  cases hu; cases hv
  refine (h5 ⟨s.toArray⟩ 10 w).mono ?_
  rintro e w' ⟨rfl,rfl⟩
  exact ⟨_,rfl,Go.RowKit.Below.refl _ _,.int _ _⟩
theorem bFb
 (h1:∀ (s cs:ByteArray) (w:World),s.size≤9223372036854775807→cs.size<4294967281→(∀ (j:Nat) b,cs.data.toList[j]?=some b→b.toNat<128)→Calls P (F 140) #[.string s,.string cs] w fun e w'=>e=.returned (.string ⟨(trimS s.data.toList cs.data.toList).toArray⟩)∧Go.RowKit.Below w.heap.size w w')
 (h2:∀ (s cs:ByteArray) (w:World),s.size≤9223372036854775807→cs.size<4294967281→(∀ (j:Nat) b,cs.data.toList[j]?=some b→b.toNat<128)→Calls P (F 143) #[.string s,.string cs] w fun e w'=>e=.returned (.string ⟨(trimRightS s.data.toList cs.data.toList).toArray⟩)∧Go.RowKit.Below w.heap.size w w')
 (h3:∀ (s cs:ByteArray) (w:World),cs.size<4294967281→(∀ (j:Nat) b,cs.data.toList[j]?=some b→b.toNat<128)→Calls P (F 144) #[.string s,.string cs] w fun e w'=>e=.returned (.string ⟨(trimLeftS s.data.toList cs.data.toList).toArray⟩)∧Go.RowKit.Below w.heap.size w w')
 (h4:∀ (s p:ByteArray) (w:World),s.size≤9223372036854775807→Calls P (F 142) #[.string s,.string p] w fun e w'=>e=.returned (.bool (hasSuffix s.data.toList p.data.toList))∧w'=w)
 (h5:∀ (s:ByteArray) (c:Int) (w:World),Calls P (F 120) #[.string s,.int .u8 c] w fun e w'=>e=.returned (.int .i64 (indexByte s.data.toList c.toNat.toUInt8))∧w'=w):StrC P F:=by
 refine ⟨bA5 h1 h2 h3 h5,fun s p hs hp=>?_⟩
 intro D w vs hD hg hl hr
 obtain ⟨u,v,rfl,hu,hv⟩:=vs2 hl hr
 cases hu; cases hv
 refine (h4 ⟨s.toArray⟩ ⟨p.toArray⟩ w (by simp [ByteArray.size]; omega)).mono ?_
 rintro e w' ⟨rfl,rfl⟩
 exact ⟨_,rfl,Go.RowKit.Below.refl _ _,.bool _⟩
theorem aG3 (c:UInt8):∀ s:List UInt8,(s.dropWhile ([c].contains ·)).length+runL c s=s.length
 | []=>rfl
 | x::r=>by
   have ih:=aG3 c r
   by_cases h:x=c
   ·subst h
    simp [List.dropWhile,runL] at ih ⊢
    omega
   ·have h2:([c].contains x)=false:=by simp [h]
    simp [List.dropWhile,runL,h,h2]
theorem bC3 (c:UInt8) (s:List UInt8):(trimLeftS s [c]).length+runL c s=s.length:=aG3 c s
theorem aZj (c:UInt8) (s:List UInt8):(trimRightS s [c]).length+runL c s.reverse=s.length:=by
 have:=aG3 c s.reverse
 simp only [trimRightS,List.length_reverse] at this ⊢
 exact this
theorem bC6 (c:UInt8) (s:List UInt8):runL c s≤s.length:=by have:=aG3 c s; omega
theorem aN3 {c x:UInt8} (hx:x≠c):∀ (u v:List UInt8),runL c (u++x::v)≤u.length
 | [],v=>by simp [runL,hx]
 | y::u,v=>by
   have ih:=aN3 hx u v
   simp only [List.cons_append,runL,List.length_cons]
   split <;> omega
theorem aLr {c:UInt8}:∀ {s:List UInt8},runL c s<s.length→∃ u x v,s=u++x::v∧x≠c∧u.length=runL c s
 | [],h=>by simp [runL] at h
 | y::s,h=>by
   by_cases hy:y=c
   ·subst hy
    have e:runL y (y::s)=runL y s+1:=by simp [runL]
    rw [e] at h ⊢
    obtain ⟨u,x,v,rfl,hx,hu⟩:=aLr (c:=y) (s:=s) (by simpa using h)
    exact ⟨y::u,x,v,rfl,hx,by simp [hu]⟩
   ·exact ⟨[],y,s,rfl,hy,by simp [runL,hy]⟩
theorem aY0 {c:UInt8} {s:List UInt8} (h:runL c s<s.length):runL c s+runL c s.reverse<s.length:=by
 obtain ⟨u,x,v,rfl,hx,hu⟩:=aLr h
 have:=aN3 hx v.reverse u.reverse
 have e:(u++x::v).reverse=v.reverse++x::u.reverse:=by simp
 rw [e]
 simp at this ⊢
 omega
theorem aYb (x:UInt8):wsp.contains x=true↔(x.toNat=9∨x.toNat=32):=by
 have h:∀ n:Nat,n<256→(x.toNat=n↔x=UInt8.ofNat n):=fun n hn=>⟨fun e=>by rw [← e]; simp,fun e=>by rw [e]; simp; omega⟩
 rw [h 9 (by omega),h 32 (by omega)]
 simp only [wsp,List.contains_cons,List.contains_nil,Bool.or_false,Bool.or_eq_true,beq_iff_eq]
 exact or_comm
theorem aVq {s:List UInt8} (h:0<s.length):trimRightS s wsp=if (s.getD (s.length-1) 0).toNat=9∨(s.getD (s.length-1) 0).toNat=32 then trimRightS (s.take (s.length-1)) wsp else s:=by
 obtain ⟨u,x,rfl⟩:∃ u x,s=u++[x]:=by
  rcases List.eq_nil_or_concat s with rfl | ⟨u,x,rfl⟩
  ·simp at h
  ·exact ⟨u,x,by simp⟩
 have e1:(u++[x]).getD ((u++[x]).length-1) 0=x:=by simp
 have e2:(u++[x]).take ((u++[x]).length-1)=u:=by simp
 rw [e1,e2]
 by_cases hx:wsp.contains x=true
 ·rw [if_pos ((aYb x).1 hx)]
  simp only [trimRightS,List.reverse_append,List.reverse_cons,List.reverse_nil,List.nil_append,List.cons_append,List.dropWhile,hx]
 ·rw [if_neg (fun q=>hx ((aYb x).2 q))]
  have hx':wsp.contains x=false:=by simpa using hx
  simp only [trimRightS,List.reverse_append,List.reverse_cons,List.reverse_nil,List.nil_append,List.cons_append,List.dropWhile,hx',List.reverse_reverse]
theorem t138 (hf:bOw P F T) (s:List UInt8) (hs:s.length≤9223372036854775807):PTr P (F 138) [.str s] (.str (trimRightS s wsp)):=by
 refine ptrC [] hf (by simp) rfl ?_
 simp only [c138,push_cast,seval,-Nat.reducePow]
 refine aAl (fun m s1=>∃ t,m=t.length∧t.length≤9223372036854775807∧trimRightS t wsp=trimRightS s wsp∧s1.env 0=.str t) s.length ⟨s,?_⟩ fun m s1 hJ=>?_
 ·simp only [push_cast,seval,-Nat.reducePow]
  exact hs
 ·obtain ⟨t,rfl,hl,ht,j0⟩:=hJ
  by_cases h0:0<t.length
  ·have h0':(0:Int)<(t.length:Nat):=by omega
   have hst:=aVq h0
   have e1:(((t.length:Nat):Int)-1).toNat=t.length-1:=by omega
   have e2:(t.take (t.length-1)).length=t.length-1:=by rw [List.length_take]; omega
   obtain ⟨x,hx⟩:∃ x,t.getD (t.length-1) 0=x:=⟨_,rfl⟩
   rw [hx] at hst
   by_cases h9:x.toNat=9
   ·have h9':((x.toNat:Nat):Int)=9:=by omega
    rw [if_pos (.inl h9)] at hst
    simp only [push_cast,seval,-Nat.reducePow,j0,h0',e1,hx,h9']
    repeat refine And.intro (by omega) ?_
    exact ⟨t.length-1,by omega,t.take (t.length-1),e2.symm,by omega,by rw [← hst]; exact ht,rfl⟩
   ·have h9':¬ ((x.toNat:Nat):Int)=9:=by omega
    by_cases h32:x.toNat=32
    ·have h32':((x.toNat:Nat):Int)=32:=by omega
     rw [if_pos (.inr h32)] at hst
     simp only [push_cast,seval,-Nat.reducePow,j0,h0',e1,hx,h9',h32']
     repeat refine And.intro (by omega) ?_
     exact ⟨t.length-1,by omega,t.take (t.length-1),e2.symm,by omega,by rw [← hst]; exact ht,rfl⟩
    ·have h32':¬ ((x.toNat:Nat):Int)=32:=by omega
     rw [if_neg (by omega)] at hst
     simp only [push_cast,seval,-Nat.reducePow,j0,h0',e1,hx,h9',h32']
     repeat refine And.intro (by omega) ?_
     rw [← ht,hst]; rfl
  ·have h0':¬ (0:Int)<(t.length:Nat):=by omega
   have:t=[]:=List.eq_nil_of_length_eq_zero (by omega)
   subst this
   simp only [push_cast,seval,-Nat.reducePow,j0]
   rw [← ht]; rfl
end Go.Ab
namespace Go.Ab
variable {P:Program} {F T:Nat→Nat}
open Go.Lib
def hdT (s:List UInt8):List UInt8:=trimRightS s wsp
def hdN (s:List UInt8):Nat:=min 6 (min (runL 61 (hdT s)) (runL 61 (hdT s).reverse))
def hdS (s:List UInt8):List UInt8:=trimS (((hdT s).take ((hdT s).length-hdN s)).drop (hdN s)) wsp
def aF6 (s:List UInt8):Prop:=runL 61 (hdT s)=0∨runL 61 (hdT s).reverse=0∨runL 61 (hdT s)=(hdT s).length
instance (s:List UInt8):Decidable (aF6 s):=by unfold aF6; infer_instance
theorem bCv (s:List UInt8):aQk s=if aF6 s then none else if hdS s=[] then none else some (hdN s,hdS s):=rfl
theorem bLu (s:List UInt8):(hdT s).length≤s.length:=aL0 s wsp
theorem bEj {s:List UInt8} (h:¬ aF6 s):0<hdN s∧2*hdN s<(hdT s).length∧hdN s≤6:=by
 simp only [aF6,not_or] at h
 have:=bC6 61 (hdT s)
 have:=aY0 (c:=61) (s:=hdT s) (by omega)
 unfold hdN
 omega
def hdV (s:List UInt8):V:=if aF6 s then .tup [.int .i64 0,.str [],.bool false] else .tup [.int .i64 (hdN s),.str (hdS s),.bool (!decide (hdS s=[]))]
theorem t137 (hf:bF7 P F T) (S:StrC0 P F) (s:List UInt8) (hs:s.length≤100000):PTr P (F 137) [.str s] (hdV s):=by
 have hTl:=bLu s
 have e2:=bC3 61 (hdT s)
 have e3:=aZj 61 (hdT s)
 have imm:(hdV s).imm=true:=by unfold hdV; split <;> rfl
 refine ptrC [] hf (by simp) imm ?_
 have hT:trimRightS s wsp=hdT s:=rfl
 have c1:=S.right s wsp hs (by decide) (by decide)
 have c2:=S.left (hdT s) [61] (by omega) (by decide) (by decide)
 have c3:=S.right (hdT s) [61] (by omega) (by decide) (by decide)
 rw [hT] at c1
 have f1:(((hdT s).length:Nat):Int)-(((trimLeftS (hdT s) [61]).length:Nat):Int)=(runL 61 (hdT s):Nat):=by omega
 have f2:(((hdT s).length:Nat):Int)-(((trimRightS (hdT s) [61]).length:Nat):Int)=(runL 61 (hdT s).reverse:Nat):=by omega
 have f3:min (min 6 ((runL 61 (hdT s):Nat):Int)) ((runL 61 (hdT s).reverse:Nat):Int)=(hdN s:Nat):=by unfold hdN; omega
 have f4:(((hdT s).length:Nat):Int)-(hdN s:Nat)=(((hdT s).length-hdN s:Nat):Int)∨aF6 s:=by
  by_cases h:aF6 s
  ·exact .inr h
  ·have:=bEj h
   exact .inl (by omega)
 simp only [c137,push_cast,seval,-Nat.reducePow]
 refine aAh c1 (by simp only [push_cast,seval,-Nat.reducePow]) (by simp only [push_cast,seval,-Nat.reducePow]) ?_
 simp only [push_cast,seval,-Nat.reducePow]
 refine aAh c2 (by simp only [push_cast,seval,-Nat.reducePow]) (by simp only [push_cast,seval,-Nat.reducePow]) ?_
 simp only [push_cast,seval,-Nat.reducePow]
 repeat refine And.intro (by omega) ?_
 refine aAh c3 (by simp only [push_cast,seval,-Nat.reducePow]) (by simp only [push_cast,seval,-Nat.reducePow]) ?_
 simp only [push_cast,seval,-Nat.reducePow,f1,f2]
 repeat refine And.intro (by omega) ?_
 by_cases h1:runL 61 (hdT s)=0
 ·have h1':((runL 61 (hdT s):Nat):Int)=0:=by omega
  have hb:aF6 s:=.inl h1
  simp only [push_cast,seval,-Nat.reducePow,f1,f2,h1',hdV,hb,view,if_true]
 ·have h1':¬ ((runL 61 (hdT s):Nat):Int)=0:=by omega
  by_cases h2:runL 61 (hdT s).reverse=0
  ·have h2':((runL 61 (hdT s).reverse:Nat):Int)=0:=by omega
   have hb:aF6 s:=.inr (.inl h2)
   simp only [push_cast,seval,-Nat.reducePow,f1,f2,h1',h2',hdV,hb,view,if_true]
  ·have h2':¬ ((runL 61 (hdT s).reverse:Nat):Int)=0:=by omega
   by_cases h3:runL 61 (hdT s)=(hdT s).length
   ·have h3':((runL 61 (hdT s):Nat):Int)=((hdT s).length:Nat):=by omega
    have hb:aF6 s:=.inr (.inr h3)
    have h4':¬ (((hdT s).length:Nat):Int)=0:=by omega
    simp only [push_cast,seval,-Nat.reducePow,f1,f2,h4',h2',h3',hdV,hb,view,if_true]
   ·have h3':¬ ((runL 61 (hdT s):Nat):Int)=((hdT s).length:Nat):=by omega
    have hb:¬ aF6 s:=by unfold aF6; omega
    have f5:=f4.resolve_right hb
    obtain ⟨g1,g2,g3⟩:=bEj hb
    simp only [push_cast,seval,-Nat.reducePow,f1,f2,f3,f5,h1',h2',h3',aRw]
    repeat refine And.intro (by omega) ?_
    refine aAh (S.trim _ (by rw [List.length_drop,List.length_take]; omega)) (by simp only [push_cast,seval,-Nat.reducePow]) (by simp only [push_cast,seval,-Nat.reducePow]) ?_
    have hS:trimS (List.drop (hdN s) (List.take ((hdT s).length-hdN s) (hdT s))) wsp=hdS s:=rfl
    rw [hS]
    simp only [push_cast,seval,-Nat.reducePow,hdV,hb,view,if_false]
end Go.Ab
namespace Go.Ab
variable {P:Program} {F T:Nat→Nat}
def bls (l:List Bool):List V:=l.map .bool
theorem aQ2 (l:List Bool):(bls l).length=l.length:=by simp [bls]
theorem aM9:∀ l:List Bool,V.imms (bls l)=true
 | []=>rfl
 | x::r=>by simp [bls,V.imms,V.imm]; exact aM9 r
theorem bK7 (l:List Bool) {i:Nat} (h:i<l.length):(bls l).getD i .junk=.bool (l.getD i false):=by
 simp [bls,List.getD,h]
theorem bBr (l:List Bool) (b:Bool):bls l++[.bool b]=bls (l++[b]):=by simp [bls]
theorem bCk {α:Type} (n:Nat) (a:α):List.replicate n a++[a]=List.replicate (n+1) a:=by
 rw [List.replicate_succ']
theorem bC1 (x:Node):srcs [x]=x.src:=by simp [srcs]
theorem aR5:∀ (d:List Node) (x:Node) (r:List Node),(srcs (d++x::r)).length=(srcs d).length+x.src.length+(srcs r).length
 | [],x,r=>by simp [srcs]
 | y::d,x,r=>by
   have:=aR5 d x r
   simp only [List.cons_append,srcs,List.length_append] at this ⊢
   omega
theorem aQs (d:List Node) (x:Node):aA2 (d++[x])=aA2 d++List.replicate x.src.length (decide (x.kind=1)):=by
 rw [aVf]; simp [aA2]
theorem aPg {L:Heap} {i ty z sz n:Nat} {k:IntKind} {m:Int} {es:List V} (h:L i=some (.vec ty z es)) (hi:V.imms es=true) (hn:n=es.length):view L 3 (.tup [.own i sz 0 n,.int k m])=.tup [.lst sz es,.int k m]:=by
 subst hn
 have:=aJ1 (sz:=sz) h hi
 simp only [view,List.map_cons,List.map_nil] at this ⊢
 rw [this]
theorem t136 (hf:bH4 P F T) (h2:∀ l:List Node,aA4 l≤2^26→PTr P (F 2) [.lst 5 (encs l)] (.str (srcs l))) (s:List UInt8) (l:List Node) (hp:PTr P (F 36) [.str s] (.tup [.lst 5 (encs l),.int .i64 0])) (hs:s.length≤100000) (hb:aA4 l≤2^26) (hl:(srcs l).length≤100000) (hn:l.length≤1000000) :
 PTr P (F 136) [.str s] (.tup [.lst 1 (bls (aA2 l)),.int .i64 0]):=by
 refine ptrC [] hf (by simp) (by simp [V.imm,V.imms,aM9]) ?_
 simp only [c136,push_cast,seval,-Nat.reducePow]
 refine aAh hp (by simp only [push_cast,seval,-Nat.reducePow]) (by simp only [push_cast,seval,-Nat.reducePow,aDt]) ?_
 simp only [push_cast,seval,-Nat.reducePow]
 repeat refine And.intro (by omega) ?_
 refine aAl (fun m s1=>∃ d r id,l=d++r∧m=r.length∧s1.env 20=.lst 5 (encs l)∧s1.env 21=.int .i64 l.length∧s1.env 22=.int .i64 d.length∧s1.env 6=.own id 1 0 (aA2 d).length∧s1.L id=some (.vec (T 15) 1 (bls (aA2 d)))∧id<s1.nx) l.length ⟨[],l,142,?_⟩ fun m s1 hJ=>?_
 ·simp only [push_cast,seval,-Nat.reducePow]
  exact ⟨rfl,rfl⟩
 ·obtain ⟨d,r,id,rfl,rfl,j0,j5,j4,j3,jL,hid⟩:=hJ
  cases r with
  | nil =>
    have h0:¬ ((d.length:Nat):Int)<(((d++[]).length:Nat):Int):=by simp
    simp only [push_cast,seval,-Nat.reducePow,j0,j3,j4,j5,jL,h0]
    exact aPg jL (aM9 _) (aQ2 _).symm
  | cons x r =>
    have h0:((d.length:Nat):Int)<(((d++x::r).length:Nat):Int):=by simp; omega
    have hx:=aX4 d x r
    rw [aR5] at hl
    have hb1:aA4 [x]≤2^26:=by
     have:=aBk d (x::r)
     have e1:aA4 (x::r)=aA4 [x]+aA4 r:=aBk [x] r
     omega
    have h2x:=h2 [x] hb1
    have hpl:aA2 (d++[x])=aA2 d++List.replicate x.src.length (decide (x.kind=1)):=aQs d x
    rw [bC1] at h2x
    have hdl:(aA2 d).length=(srcs d).length:=aHj d
    have hn2:d.length≤1000000:=by rw [List.length_append] at hn; omega
    generalize x.src=w at *
    obtain ⟨k,tg,tx,ks,av⟩:=x
    simp only [push_cast,seval,-Nat.reducePow,j0,j3,j4,j5,jL,h0,hx,Node.cs]
    refine aAh h2x (by simp only [push_cast,seval,-Nat.reducePow,Node.cs]) (by simp only [push_cast,seval,-Nat.reducePow]) ?_
    simp only [push_cast,seval,-Nat.reducePow,j0,j3,j4,j5,jL,h0,hx,Node.cs]
    have hbb:decide ((Node.mk k tg tx ks av).kind=1)=decide (k=1):=rfl
    rw [hbb] at hpl
    refine aAl (fun m s2=>∃ j id2,j≤w.length∧m=w.length-j∧s2.env 20=.lst 5 (encs (d++Node.mk k tg tx ks av::r))∧s2.env 21=.int .i64 (d++Node.mk k tg tx ks av::r).length∧s2.env 22=.int .i64 d.length∧s2.env 29=.int .i64 w.length∧s2.env 30=.int .i64 j∧s2.env 8=.ptr (s1.nx+49) 0∧s2.env 6=.own id2 1 0 ((aA2 d).length+j)∧s2.L id2=some (.vec (T 15) 1 (bls (aA2 d++List.replicate j (decide (k=1)))))∧s2.L (s1.nx+49)=some (.box (T 0) [.int .i64 k,.int .i64 tg,.str tx,.lst 5 (encs ks),.lst 3 (encA av)])∧id2<s2.nx∧s1.nx+49<s2.nx∧id2≠s1.nx+49) w.length ⟨0,id,?_⟩ fun m s2 hJ=>?_
    ·have hne:id≠s1.nx+49:=by omega
     simp only [push_cast,seval,-Nat.reducePow,j0,j3,j4,j5,jL,hne]
     simp
     omega
    ·obtain ⟨j,id2,hj,rfl,k0,k1,k2,k3,k4,k5,k6,kL,kB,kid,kq,kne⟩:=hJ
     by_cases hjw:j<w.length
     ·have hjw':((j:Nat):Int)<((w.length:Nat):Int):=by omega
      have hlen:(bls (aA2 d++List.replicate j (decide (k=1)))).length=(aA2 d).length+j:=by rw [aQ2,List.length_append,List.length_replicate]
      have htk:List.take ((aA2 d).length+j) (bls (aA2 d++List.replicate j (decide (k=1))))=bls (aA2 d++List.replicate j (decide (k=1))):=List.take_of_length_le (by omega)
      have hsn:bls (aA2 d++List.replicate j (decide (k=1)))++[.bool (decide (k=1))]=bls (aA2 d++List.replicate (j+1) (decide (k=1))):=by rw [bBr,List.append_assoc,bCk]
      have hne2:s1.nx+49≠s2.nx+37:=by omega
      have hne3:s1.nx+49≠id2:=by omega
      simp only [push_cast,seval,-Nat.reducePow,k0,k1,k2,k3,k4,k5,k6,kL,kB,hjw',hlen,htk,hsn,hne2,hne3]
      refine ⟨by omega,by omega,w.length-(j+1),by omega,j+1,s2.nx+78,by omega,rfl,by simp,rfl,aAf _ _ _,?_,by omega,by omega,by omega⟩
      rw [aAd _ _ _ _ (by omega),aAd _ _ _ _ (by omega)]; exact kB
     ·have hjw':¬ ((j:Nat):Int)<((w.length:Nat):Int):=by omega
      obtain rfl:j=w.length:=by omega
      simp only [push_cast,seval,-Nat.reducePow,k0,k1,k2,k3,k4,k5,k6,kL,kB,hjw']
      repeat refine And.intro (by omega) ?_
      refine ⟨r.length,by simp,d++[.mk k tg tx ks av],r,id2,by simp,rfl,by simp,?_,?_,by omega⟩
      ·rw [hpl]; simp
      ·rw [hpl]; exact kL
end Go.Ab
namespace Go.Ab
variable {P:Program} {F T:Nat→Nat}
open Go.Lib
theorem aD1 (l:List Sec):(secV l).length=l.length:=by simp [secV]
theorem aF5:∀ l:List Sec,V.imms (secV l)=true
 | []=>rfl
 | x::r=>by simp [secV,V.imms,V.imm,Sec.v]; exact aF5 r
theorem aXo (l:List Sec) (x:Sec):secV l++[x.v]=secV (l++[x]):=by simp [secV]
theorem aPx (d:List Sec) (x:Sec) (r:List Sec):(secV (d++x::r)).getD d.length .junk=x.v:=by
 simp [secV,List.getD]
theorem bBy (d:List Sec) (x y:Sec) (r:List Sec):(secV (d++x::r)).set d.length y.v=secV (d++y::r):=by
 simp only [secV,List.map_append,List.map_cons]
 rw [List.set_append_right _ _ (by simp)]
 simp
theorem aW3:∀ s:List UInt8,indexByte s 10=if aCm s<s.length then (aCm s:Int) else -1
 | []=>rfl
 | x::r=>by
   have ih:=aW3 r
   by_cases hx:x=10
   ·subst hx
    simp [indexByte,aCm]
   ·have e:aCm (x::r)=aCm r+1:=by simp [aCm,hx]
    have hx':(x==10)=false:=by simpa using hx
    rw [e]
    simp only [indexByte,hx',List.length_cons,Bool.false_eq_true,if_false]
    rw [ih]
    by_cases h:aCm r<r.length
    ·have h2:aCm r+1<r.length+1:=by omega
     have h3:(((aCm r:Nat):Int)==-1)=false:=by rw [beq_eq_false_iff_ne]; omega
     simp only [h,h2,if_true,h3,Bool.false_eq_true,if_false]
     omega
    ·have h2:¬ aCm r+1<r.length+1:=by omega
     simp only [h,h2,if_false]
     rfl
def allP (p:List Bool) (i j:Nat):Bool:=((p.take j).drop i).all id
theorem bCi (p:List Bool) (i:Nat):allP p i i=true:=by simp [allP]
theorem aZe (p:List Bool) {i j:Nat} (hi:i≤j) (hj:j<p.length):allP p i (j+1)=(allP p i j&&p.getD j false):=by
 simp only [allP]
 rw [List.take_succ_eq_append_getElem hj,List.drop_append_of_le_length (by simp; omega),List.all_append]
 simp [List.getD,hj]
theorem aYq (s:List UInt8) (p:List Bool) {i:Nat} (h:i<s.length):rawF s p (s.length+1) i=aEi s p i++rawF s p (s.length+1) (min (aB2 s i+1) s.length):=by
 have:=aEt (s:=s) (i:=i) (by omega)
 conv=>lhs; rw [rawF]
 rw [if_pos h,aN6 s p s.length (s.length+1) _ (by omega) (by omega)]
theorem bDz (s:List UInt8) (p:List Bool) (n:Nat) {i:Nat} (h:s.length≤i):rawF s p n i=[]:=by
 cases n with
 | zero=>rfl
 | succ n=>rw [rawF,if_neg (by omega)]
def endS (x:Sec) (n:Nat):Sec:={ x with to:=n }
theorem bAg {x:Sec} {q:List Sec} (h:∀ y,y∈q→x.lev<y.lev):toOf x q=x:=by
 have:q.find? (fun y=>decide (y.lev≤x.lev))=none:=by
  rw [List.find?_eq_none]
  intro y hy
  have:=h y hy
  simp; omega
 simp [toOf,this]
theorem aWi {x y:Sec} {u v:List Sec} (h:∀ y,y∈u→x.lev<y.lev) (hy:y.lev≤x.lev):toOf x (u++y::v)=endS x y.fr:=by
 have:(u++y::v).find? (fun y=>decide (y.lev≤x.lev))=some y:=by
  rw [List.find?_append]
  have:u.find? (fun y=>decide (y.lev≤x.lev))=none:=by
   rw [List.find?_eq_none]
   intro y hy
   have:=h y hy
   simp; omega
  rw [this]
  simp [hy]
 simp [toOf,this,endS]
theorem aSr {s:List UInt8} {i:Nat} (h:i≤s.length):(s.drop i).length=s.length-i:=List.length_drop
def hdOk (s:List UInt8):Bool:=!decide (aF6 s)&&!decide (hdS s=[])
theorem bBi (s:List UInt8) (p:List Bool) (i:Nat):aEi s p i =
 if (hdOk ((s.take (aB2 s i)).drop i)&&allP p i (aB2 s i))=true then [⟨hdN ((s.take (aB2 s i)).drop i),hdS ((s.take (aB2 s i)).drop i),i,min (aB2 s i+1) s.length,s.length⟩] else []:=by
 simp only [aEi,bCv,hdOk,allP]
 by_cases h1:((p.take (aB2 s i)).drop i).all id=true
 rotate_left
 ·simp [h1]
 ·by_cases h2:aF6 ((s.take (aB2 s i)).drop i)
  ·simp [h2]
  ·by_cases h3:hdS ((s.take (aB2 s i)).drop i)=[] <;> simp [h1,h2,h3]
end Go.Ab
namespace Go.Ab
variable {P:Program} {F T:Nat→Nat}
open Go.Lib
theorem bKg {f:Nat} {args:List V} {r r':V} (h:PTr P f args r) (hl:r.le r'):PTr P f args r':=by
 intro D w vs hD hg hn hr
 refine (h D w vs hD hg hn hr).mono ?_
 rintro e w' ⟨v,h1,h2,h3⟩
 exact ⟨v,h1,h2,h3.le hl⟩
theorem t139 (hf:bOl P F T) (l:List Sec) (hl:l.length≤100000):PTr P (F 139) [.lst 5 (secV l),.lst 5 (secV l)] (.bool true):=by
 refine ptrC [] hf (by simp [aF5]) rfl ?_
 have hlen:=aD1 l
 simp only [c139,push_cast,seval,-Nat.reducePow]
 refine aAl (fun m s1=>∃ i,i≤l.length∧m=l.length-i∧s1.env 0=.lst 5 (secV l)∧s1.env 1=.lst 5 (secV l)∧s1.env 5=.int .i64 i) l.length ⟨0,?_⟩ fun m s1 hJ=>?_
 ·simp only [push_cast,seval,-Nat.reducePow]
  omega
 ·obtain ⟨i,hi,rfl,j0,j1,j5⟩:=hJ
  by_cases h:i<l.length
  ·have h':((i:Nat):Int)<((secV l).length:Nat):=by omega
   have hx:(secV l).getD i .junk=(l[i]).v:=by simp [secV,List.getD,h]
   obtain ⟨lv,ti,fr,bd,to⟩:=l[i]
   simp only [Sec.v] at hx
   simp only [push_cast,seval,-Nat.reducePow,j0,j1,j5,h',hx]
   refine ⟨by omega,by omega,by omega,l.length-(i+1),by omega,i+1,by omega,rfl,by simp⟩
  ·have h':¬ ((i:Nat):Int)<((secV l).length:Nat):=by omega
   simp only [push_cast,seval,-Nat.reducePow,j0,j1,j5,h',view]
def aM7 (s:List UInt8):List UInt8:=match aE9 s with | []=>s | x::_=>s.take x.fr
def endB (t:List UInt8):Bool:=decide ((t.getD (t.length-1) 0).toNat=10)
theorem bIb {t:List UInt8} (h:t≠[]):hasSuffix t [10]=endB t:=by
 obtain ⟨u,x,rfl⟩:∃ u x,t=u++[x]:=by
  rcases List.eq_nil_or_concat t with rfl | ⟨u,x,rfl⟩
  ·exact absurd rfl h
  ·exact ⟨u,x,by simp⟩
 have e1:(u++[x]).getD ((u++[x]).length-1) 0=x:=by simp
 rw [endB,e1]
 have e2:hasSuffix (u++[x]) [10]=((10:UInt8)==x):=by simp [hasSuffix,List.isSuffixOf,List.isPrefixOf]
 rw [e2,Bool.eq_iff_iff,beq_iff_eq,decide_eq_true_iff]
 exact ⟨fun e=>by rw [← e]; rfl,fun e=>by
  have:x=UInt8.ofNat x.toNat:=by simp
  rw [this,e]; rfl⟩
end Go.Ab
