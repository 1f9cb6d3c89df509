/- Several texts of one kind, merged. No condition. -/
import Derived.Test.YtjakkhalapaofaaGreatDoorAbR8
import Derived.Lib.SlTrimSet
import Derived.Test.YtjakkhalapaofaaGreatDoorAbR1
import Derived.KernelRfl
set_option linter.unusedSimpArgs false
set_option linter.unusedVariables false
namespace Go.Ab
def wsp:List UInt8:=[32,9]
def aA7 (l:List Node):List Bool:=l.flatMap fun n=>List.replicate n.src.length (decide (n.kind=1))
theorem aGh:∀ l:List Node,(aA7 l).length=(srcs l).length
 | []=>by simp [aA7,srcs]
 | n::r=>by
   have ih:=aGh r
   simp only [aA7] at ih
   simp [aA7,srcs,ih]
theorem aVt (a b:List Node):aA7 (a++b)=aA7 a++aA7 b:=by simp [aA7]
def bH4 (s:List UInt8):Option (Nat×List UInt8) :=
 if runL 61 (Go.Lib.trimRightS s wsp)=0∨runL 61 (Go.Lib.trimRightS s wsp).reverse=0∨runL 61 (Go.Lib.trimRightS s wsp)=(Go.Lib.trimRightS s wsp).length then none
 else
  if Go.Lib.trimS (((Go.Lib.trimRightS s wsp).take ((Go.Lib.trimRightS s wsp).length-min 6 (min (runL 61 (Go.Lib.trimRightS s wsp)) (runL 61 (Go.Lib.trimRightS s wsp).reverse)))).drop (min 6 (min (runL 61 (Go.Lib.trimRightS s wsp)) (runL 61 (Go.Lib.trimRightS s wsp).reverse)))) wsp=[] then none
  else some (min 6 (min (runL 61 (Go.Lib.trimRightS s wsp)) (runL 61 (Go.Lib.trimRightS s wsp).reverse)),Go.Lib.trimS (((Go.Lib.trimRightS s wsp).take ((Go.Lib.trimRightS s wsp).length-min 6 (min (runL 61 (Go.Lib.trimRightS s wsp)) (runL 61 (Go.Lib.trimRightS s wsp).reverse)))).drop (min 6 (min (runL 61 (Go.Lib.trimRightS s wsp)) (runL 61 (Go.Lib.trimRightS s wsp).reverse)))) wsp)
structure Sec where
 lev:Nat
 title:List UInt8
 fr:Nat
 bd:Nat
 to:Nat
def aCq:List UInt8→Nat
 | []=>0
 | x::r=>if x=10 then 0 else aCq r+1
theorem aNi:∀ s:List UInt8,aCq s≤s.length
 | []=>Nat.le_refl _
 | x::r=>by
   have:=aNi r
   simp only [aCq,List.length_cons]
   split <;> omega
def aCt (s:List UInt8) (i:Nat):Nat:=i+aCq (s.drop i)
theorem aEp {s:List UInt8} {i:Nat} (h:i≤s.length):i≤aCt s i∧aCt s i≤s.length:=by
 have:=aNi (s.drop i)
 rw [List.length_drop] at this
 unfold aCt
 omega
def aFx (s:List UInt8) (p:List Bool) (i:Nat):List Sec :=
 if ((p.take (aCt s i)).drop i).all id then
  match bH4 ((s.take (aCt s i)).drop i) with
  | some (k,t)=>[⟨k,t,i,min (aCt s i+1) s.length,s.length⟩]
  | none=>[]
 else []
def rawF (s:List UInt8) (p:List Bool):Nat→Nat→List Sec
 | 0,_=>[]
 | n+1,i=>if i<s.length then aFx s p i++rawF s p n (min (aCt s i+1) s.length) else []
def toOf (x:Sec) (r:List Sec):Sec:={ x with to:=match r.find? (fun y=>decide (y.lev≤x.lev)) with | some y=>y.fr | none=>x.to }
def toF:List Sec→List Sec
 | []=>[]
 | x::r=>toOf x r::toF r
def aCm (s:List UInt8):List Sec:=toF (rawF s (aA7 (aCc s)) (s.length+1) 0)
def Sec.v (x:Sec):V:=.agg [.int .i64 x.lev,.str x.title,.int .i64 x.fr,.int .i64 x.bd,.int .i64 x.to]
def secV (l:List Sec):List V:=l.map Sec.v
theorem aW6:∀ l:List Sec,(toF l).length=l.length
 | []=>rfl
 | x::r=>by simp [toF,aW6 r]
theorem aPx (s:List UInt8) (p:List Bool):∀ (n m i:Nat),s.length<n+i→s.length<m+i→rawF s p n i=rawF s p m i
 | 0,0,_,_,_=>rfl
 | 0,m+1,i,h,_=>by
   simp only [rawF]
   rw [if_neg (by omega)]
 | n+1,0,i,_,h=>by
   simp only [rawF]
   rw [if_neg (by omega)]
 | n+1,m+1,i,h1,h2=>by
   simp only [rawF]
   by_cases hi:i<s.length
   ·rw [if_pos hi,if_pos hi]
    have:=aEp (s:=s) (i:=i) (by omega)
    rw [aPx s p n m (min (aCt s i+1) s.length) (by omega) (by omega)]
   ·rw [if_neg hi,if_neg hi]
end Go.Ab
namespace Go.Ab
theorem aO4:∀ {s:List UInt8},aCq s<s.length→s[aCq s]?=some 10
 | [],h=>by simp at h
 | x::r,h=>by
   by_cases hx:x=10
   ·subst hx; simp [aCq]
   ·have e:aCq (x::r)=aCq r+1:=by simp [aCq,hx]
    rw [e] at h ⊢
    simp only [List.length_cons] at h
    rw [List.getElem?_cons_succ]
    exact aO4 (by omega)
theorem aTe:∀ {s:List UInt8} {j:Nat},j<aCq s→∃ b,s[j]?=some b∧b≠10
 | [],j,h=>by simp [aCq] at h
 | x::r,j,h=>by
   by_cases hx:x=10
   ·subst hx; simp [aCq] at h
   ·have e:aCq (x::r)=aCq r+1:=by simp [aCq,hx]
    rw [e] at h
    cases j with
    | zero=>exact ⟨x,by simp,hx⟩
    | succ j =>
      rw [List.getElem?_cons_succ]
      exact aTe (by omega)
def LSt (s:List UInt8) (i:Nat):Prop:=i=0∨(0<i∧s[i-1]?=some 10)
theorem aZk:bH4 []=none:=by decide
structure RawOk (s:List UInt8) (i:Nat) (x:Sec):Prop where
 fr:i≤x.fr
 bd:x.fr<x.bd
 le:x.bd≤s.length
 to:x.to=s.length
 ls:LSt s x.fr
theorem bC6 {s:List UInt8} {p:List Bool} {i:Nat} (hi:i<s.length) (hl:LSt s i):∀ x,x∈aFx s p i→RawOk s i x∧x.fr=i∧x.bd=min (aCt s i+1) s.length:=by
 intro x hx
 have:=aEp (s:=s) (i:=i) (by omega)
 simp only [aFx] at hx
 split at hx
 ·split at hx
  ·rw [List.mem_singleton] at hx
   subst hx
   exact ⟨⟨Nat.le_refl _,by show i<min _ _; omega,by show min _ _≤_; omega,rfl,hl⟩,rfl,rfl⟩
  ·simp at hx
 ·simp at hx
theorem bM4 {s:List UInt8} {i:Nat} (hi:i<s.length) (hn:min (aCt s i+1) s.length<s.length):LSt s (min (aCt s i+1) s.length):=by
 have h:=aEp (s:=s) (i:=i) (by omega)
 have e:min (aCt s i+1) s.length=aCt s i+1:=by omega
 rw [e] at hn ⊢
 refine .inr ⟨by omega,?_⟩
 have h2:aCq (s.drop i)<(s.drop i).length:=by
  rw [List.length_drop]; unfold aCt at h hn; omega
 have h3:=aO4 h2
 rw [List.getElem?_drop] at h3
 simpa [aCt] using h3
theorem aWr (s:List UInt8) (p:List Bool):∀ (n i:Nat),(i<s.length→LSt s i)→(∀ x,x∈rawF s p n i→RawOk s i x)∧(rawF s p n i).Pairwise (fun x y=>x.bd≤y.fr)
 | 0,i,_=>by simp [rawF]
 | n+1,i,hl=>by
   simp only [rawF]
   by_cases hi:i<s.length
   ·rw [if_pos hi]
    have h1:=bC6 (p:=p) hi (hl hi)
    have hle:=aEp (s:=s) (i:=i) (by omega)
    obtain ⟨h2,h3⟩:=aWr s p n (min (aCt s i+1) s.length) (fun h=>bM4 hi h)
    refine ⟨fun x hx=>?_,?_⟩
    ·rw [List.mem_append] at hx
     rcases hx with hx | hx
     ·exact (h1 x hx).1
     ·have:=h2 x hx
      exact ⟨by have:=this.fr; omega,this.bd,this.le,this.to,this.ls⟩
    ·rw [List.pairwise_append]
     refine ⟨?_,h3,fun a ha b hb=>?_⟩
     ·simp only [aFx]
      split
      ·split <;> simp
      ·simp
     ·have:=(h1 a ha).2.2
      have:=(h2 b hb).fr
      omega
   ·rw [if_neg hi]; simp
structure SecOk (s:List UInt8) (x:Sec):Prop where
 bd:x.fr<x.bd
 le:x.bd≤x.to
 to:x.to≤s.length
 ls:LSt s x.fr
 e:x.to=s.length∨LSt s x.to
theorem aV3 (x:Sec) (r:List Sec):((toOf x r).to=x.to∧∀ y,y∈r→x.lev<y.lev)∨∃ b z c,r=b++z::c∧(∀ y,y∈b→x.lev<y.lev)∧z.lev≤x.lev∧(toOf x r).to=z.fr:=by
 cases h:r.find? (fun y=>decide (y.lev≤x.lev)) with
 | none =>
   refine .inl ⟨by simp [toOf,h],fun y hy=>?_⟩
   have:=List.find?_eq_none.1 h y hy
   simpa using this
 | some z =>
   obtain ⟨hz,b,c,hr,hb⟩:=List.find?_eq_some_iff_append.1 h
   refine .inr ⟨b,z,c,hr,fun y hy=>?_,by simpa using hz,by simp [toOf,h]⟩
   have:=hb y hy
   simpa using this
theorem bA1:∀ {l:List Sec} {y:Sec},y∈toF l→∃ a y0 r,l=a++y0::r∧y=toOf y0 r
 | [],y,h=>by simp [toF] at h
 | x::l,y,h=>by
   simp only [toF,List.mem_cons] at h
   rcases h with rfl | h
   ·exact ⟨[],x,l,rfl,rfl⟩
   ·obtain ⟨a,y0,r,rfl,rfl⟩:=bA1 h
    exact ⟨x::a,y0,r,rfl,rfl⟩
theorem bKx {s:List UInt8} {l:List Sec} {i:Nat} (h:∀ x,x∈l→RawOk s i x) (hp:l.Pairwise (fun x y=>x.bd≤y.fr)):∀ x,x∈toF l→SecOk s x:=by
 intro x hx
 obtain ⟨a,y,r,rfl,rfl⟩:=bA1 hx
 have hy:=h y (by simp)
 rcases aV3 y r with ⟨h1,h2⟩ | ⟨b,z,c,rfl,h2,h3,h4⟩
 ·exact ⟨hy.bd,by rw [h1,hy.to]; exact hy.le,by rw [h1,hy.to]; exact Nat.le_refl _,hy.ls,.inl (by rw [h1,hy.to])⟩
 ·have hz:=h z (by simp)
  have hle:y.bd≤z.fr:=by
   rw [List.pairwise_append] at hp
   exact (List.pairwise_cons.1 hp.2.1).1 z (by simp)
  have:=hz.bd
  have:=hz.le
  exact ⟨hy.bd,by rw [h4]; exact hle,by rw [h4]; omega,hy.ls,.inr (by rw [h4]; exact hz.ls)⟩
theorem aTo (s:List UInt8):(∀ x,x∈rawF s (aA7 (aCc s)) (s.length+1) 0→RawOk s 0 x)∧(rawF s (aA7 (aCc s)) (s.length+1) 0).Pairwise (fun x y=>x.bd≤y.fr):=aWr s _ _ 0 (fun _=>.inl rfl)
theorem aZ9 (s:List UInt8):∀ x,x∈aCm s→SecOk s x:=bKx (aTo s).1 (aTo s).2
theorem aH1 (s:List UInt8) (p:List Bool):∀ (n i:Nat),(rawF s p n i).length≤s.length-i
 | 0,i=>by simp [rawF]
 | n+1,i=>by
   simp only [rawF]
   by_cases hi:i<s.length
   ·rw [if_pos hi]
    have:=aEp (s:=s) (i:=i) (by omega)
    have h2:=aH1 s p n (min (aCt s i+1) s.length)
    have h1:(aFx s p i).length≤1:=by
     simp only [aFx]
     split
     ·split <;> simp
     ·simp
    rw [List.length_append]
    omega
   ·rw [if_neg hi]; simp
theorem bEa (s:List UInt8):(aCm s).length≤s.length:=by
 have:=aH1 s (aA7 (aCc s)) (s.length+1) 0
 rw [aCm,aW6]; omega
theorem aO7 {s:List UInt8} {p:List Bool} (hp:p.length=s.length) (h:∀ (j:Nat),p[j]?=some true→s[j]?=some 10):∀ (n i:Nat),rawF s p n i=[]
 | 0,_=>rfl
 | n+1,i=>by
   simp only [rawF]
   by_cases hi:i<s.length
   ·rw [if_pos hi,aO7 hp h n,List.append_nil,aFx]
    have hle:=aEp (s:=s) (i:=i) (by omega)
    by_cases he:aCt s i=i
    ·rw [he]
     have e:List.drop i (List.take i s)=[]:=by simp
     rw [e,aZk]
     split <;> rfl
    ·have hlt:0<aCq (s.drop i):=by unfold aCt at he; omega
     obtain ⟨b,hb,hb2⟩:=aTe hlt
     rw [List.getElem?_drop] at hb
     have hpi:p[i]?=some false:=by
      have h1:i<p.length:=by omega
      cases hc:p[i] with
      | true =>
        have h2:=h i (by rw [List.getElem?_eq_getElem h1,hc])
        rw [show i+0=i from rfl] at hb
        rw [h2] at hb
        cases hb
        exact absurd rfl hb2
      | false=>rw [List.getElem?_eq_getElem h1,hc]
     rw [if_neg]
     intro hall
     have hm:false∈(p.take (aCt s i)).drop i:=by
      refine List.mem_of_getElem? (i:=0) ?_
      rw [List.getElem?_drop,List.getElem?_take_of_lt (by omega)]
      exact hpi
     have:=List.all_eq_true.1 hall false hm
     simp at this
   ·rw [if_neg hi]
theorem aYi {s:List UInt8} {n:Node} (hp:aCc s=[n]) (hk:n.kind≠1):aCm s=[]:=by
 have h:rawF s (aA7 (aCc s)) (s.length+1) 0=[]:=by
  refine aO7 (by rw [aGh,aGw]) (fun j hj=>?_) _ _
  exfalso
  rw [hp] at hj
  have:true∈aA7 [n]:=List.mem_of_getElem? hj
  simp [aA7,hk] at this
 rw [aCm,h]; rfl
end Go.Ab
namespace Go.Ab
def c124 (F T:Nat→Nat):C :=
 .n [.mov (some 2) (.k .nils),.mov (some 3) (.i 0)] <|
 .n [.m 19 0,.c 20 (F 136) [.t 19],.m 18 20,.x 21 0 18,.x 22 1 18,.m 4 21,.m 5 22] <|
 .seq (.n [.m 23 5,.bi 24 .neq 23 0] <|
 .cond (.t 24)
 (.n [.m 25 5,.mov (some 2) (.k .nils),.m 3 25] <|
 .ret)
 (.skip)) <|
 .seq (.gha (.own 6 (T 14) 5) <| .o [.mov (some 6) (.k .nils)]) <|
 .seq (.n [.mov (some 7) (.i 0)] <|
 .block 0 <|
 .loop <|
 .seq (.n [.m 26 7,.m 27 0,.ls 28 27,.b 29 .lss 26 28] <|
 .cond (.t 29)
 (.skip)
 (.exit 0)) <|
 .block 1 <|
 .n [.m 30 0,.ls 31 30,.m 8 31] <|
 .n [.m 32 0,.ls 33 32,.m 9 33] <|
 .seqc (.n [.m 34 0,.m 35 7,.slcS (some 36) (.t 34) (some (.t 35)) none,.c 37 (F 120) [.t 36,(.k (.int .u8 10))],.m 10 37] <|
 .n [.m 38 10,.bi 39 .geq 38 0] <|
 .cond (.t 39)
 (.o [.m 40 7,.m 41 10,.b 42 .add 40 41,.m 43 7,.m 44 10,.b 45 .add 43 44,.bi 46 .add 45 1,.m 8 42,.m 9 46])
 (.skip)) <|
 .n [.mov (some 11) (.k (.bool true))] <|
 .seq (.n [.m 47 7,.m 12 47] <|
 .block 2 <|
 .loop <|
 .seq (.n [.m 48 12,.m 49 8,.b 50 .lss 48 49] <|
 .cond (.t 50)
 (.skip)
 (.exit 2)) <|
 .seq (.block 3 <|
 .ops false [⟨none,[.m 53 11,.m 54 53]⟩,
 ⟨some (54,true),[.m 55 4,.m 56 12,.ia 57 1 55 56,.l 58 57]⟩,
 ⟨none,[.pf 59 54 58,.m 11 59]⟩]) <|
 .o [.m 51 12,.bi 52 .add 51 1,.m 12 52]) <|
 .seqc (.n [.m 61 0,.m 62 7,.m 63 8,.slcS (some 64) (.t 61) (some (.t 62)) (some (.t 63)),.c 65 (F 137) [.t 64],.m 60 65,.x 66 0 60,.x 67 1 60,.x 68 2 60,.m 13 66,.m 14 67,.m 15 68] <|
 .seq (.ops false [⟨none,[.m 69 15,.m 70 69]⟩,
 ⟨some (70,true),[.m 71 11]⟩,
 ⟨none,[.pf 72 70 71]⟩]) <|
 .cond (.t 72)
 (.o [.m 73 6,.m 74 13,.m 75 14,.m 76 7,.m 77 9,.m 78 0,.ls 79 78,.build (some 80) [(.int .i64 0),(.str []),(.int .i64 0),(.int .i64 0),(.int .i64 0)] [(0,1,(.t 74)),(1,1,(.t 75)),(2,1,(.t 76)),(3,1,(.t 77)),(4,1,(.t 79))],.mkl (some 81) 5 [.t 80],.app 82 (T 14) 5 (.t 73) (.t 81),.m 6 82])
 (.skip)) <|
 .o [.m 83 9,.m 7 83]) <|
 .seq (.n [.m 84 6,.ll 85 84,.mov (some 86) (.i 0)] <|
 .block 4 <|
 .loop <|
 .n [.b 87 .lss 86 85] <|
 .seq (.cond (.t 87)
 (.skip)
 (.exit 4)) <|
 .seq (.block 5 <|
 .n [.m 88 86,.m 16 88] <|
 .n [.m 89 16,.bi 90 .add 89 1,.m 17 90] <|
 .block 6 <|
 .loop <|
 .seq (.n [.m 91 17,.m 92 6,.ll 93 92,.b 94 .lss 91 93] <|
 .cond (.t 94)
 (.skip)
 (.exit 6)) <|
 .seq (.block 7 <|
 .seq (.p [.m 97 6,.m 98 17,.ia 99 5 97 98,.f 100 0 99,.l 101 100,.m 102 6,.m 103 16,.ia 104 5 102 103,.f 105 0 104,.l 106 105,.b 107 .leq 101 106]) <|
 .cond (.t 107)
 (.n [.m 108 6,.m 109 16,.m 110 6,.m 111 17,.ia 112 5 110 111,.f 113 2 112,.l 114 113,.ia 115 5 108 109,.f 116 4 115,.store 1 (.t 116) (.t 114)] <|
 .exit 6)
 (.skip)) <|
 .o [.m 95 17,.bi 96 .add 95 1,.m 17 96]) <|
 .o [.bi 117 .add 86 1,.m 86 117]) <|
 .n [.m 118 6,.m 2 118,.mov (some 3) (.i 0)] <|
 .ret
abbrev bKb (P:Program) (F T:Nat→Nat):Prop:=Fn P (F 124) 119 [(2,none),(3,none)] (c124 F T)
def c128 (F T:Nat→Nat):C :=
 .n [.mov (some 4) (.i 0),.mov (some 5) (.k (.bool false))] <|
 .n [.m 8 1,.c 9 (F 140) [.t 8,.s [32,9]],.m 1 9] <|
 .seq (.n [.m 10 0,.ll 11 10,.mov (some 12) (.i 0)] <|
 .block 0 <|
 .loop <|
 .n [.b 13 .lss 12 11] <|
 .seq (.cond (.t 13)
 (.skip)
 (.exit 0)) <|
 .seq (.block 1 <|
 .n [.m 14 12,.ia 15 5 10 12,.load (some 16) false 5 true (.t 15),.alloc 7 (T 14) [(.int .i64 0),(.str []),(.int .i64 0),(.int .i64 0),(.int .i64 0)],.m 6 14,.store 5 (.t 7) (.t 16)] <|
 .n [.f 17 1 7,.l 18 17,.m 19 1,.b 20 .eql 18 19] <|
 .cond (.t 20)
 (.n [.m 21 6,.m 4 21,.mov (some 5) (.k (.bool true))] <|
 .ret)
 (.skip)) <|
 .o [.bi 22 .add 12 1,.m 12 22]) <|
 .n [.mov (some 4) (.i 0),.mov (some 5) (.k (.bool false))] <|
 .ret
abbrev bGq (P:Program) (F T:Nat→Nat):Prop:=Fn P (F 128) 23 [(4,none),(5,none)] (c128 F T)
def c132 (F T:Nat→Nat):C :=
 .n [.mov (some 4) (.s []),.mov (some 5) (.i 0)] <|
 .n [.m 9 0,.m 10 1,.c 11 (F 141) [.t 9,.t 10],.m 8 11,.x 12 0 8,.x 13 1 8,.alloc 6 (T 14) [(.int .i64 0),(.str []),(.int .i64 0),(.int .i64 0),(.int .i64 0)],.store 5 (.t 6) (.t 12),.m 7 13] <|
 .n [.m 14 0,.f 15 2 6,.l 16 15,.f 17 4 6,.l 18 17,.slcS (some 19) (.t 14) (some (.t 16)) (some (.t 18)),.m 20 7,.m 4 19,.m 5 20] <|
 .ret
abbrev bGm (P:Program) (F T:Nat→Nat):Prop:=Fn P (F 132) 21 [(4,none),(5,none)] (c132 F T)
def c136 (F T:Nat→Nat):C :=
 .n [.mov (some 2) (.k .nils),.mov (some 3) (.i 0)] <|
 .n [.m 10 0,.c 11 (F 36) [.t 10],.m 9 11,.x 12 0 9,.x 13 1 9,.m 4 12,.m 5 13] <|
 .seq (.n [.m 14 5,.bi 15 .neq 14 0] <|
 .cond (.t 15)
 (.n [.m 16 5,.mov (some 2) (.k .nils),.m 3 16] <|
 .ret)
 (.skip)) <|
 .n [.m 17 0,.ls 18 17,.mk0 19 (T 15) 1 (.t 18),.m 6 19] <|
 .seq (.n [.m 20 4,.ll 21 20,.mov (some 22) (.i 0)] <|
 .block 0 <|
 .loop <|
 .n [.b 23 .lss 22 21] <|
 .seq (.cond (.t 23)
 (.skip)
 (.exit 0)) <|
 .seq (.block 1 <|
 .n [.ia 24 5 20 22,.load (some 25) false 5 true (.t 24),.alloc 8 (T 0) [(.int .i64 0),(.int .i64 0),(.str []),.nils,.nils],.store 5 (.t 8) (.t 25)] <|
 .n [.load (some 26) false 5 true (.t 8),.mkl (some 27) 5 [.t 26],.c 28 (F 2) [.t 27],.ls 29 28,.mov (some 30) (.i 0)] <|
 .block 2 <|
 .loop <|
 .n [.b 31 .lss 30 29] <|
 .seq (.cond (.t 31)
 (.skip)
 (.exit 2)) <|
 .seq (.block 3 <|
 .o [.m 32 6,.f 33 0 8,.l 34 33,.bi 35 .eql 34 1,.mkl (some 36) 1 [.t 35],.app 37 (T 15) 1 (.t 32) (.t 36),.m 6 37]) <|
 .o [.bi 38 .add 30 1,.m 30 38]) <|
 .o [.bi 39 .add 22 1,.m 22 39]) <|
 .n [.m 40 6,.m 2 40,.mov (some 3) (.i 0)] <|
 .ret
abbrev bFu (P:Program) (F T:Nat→Nat):Prop:=Fn P (F 136) 41 [(2,none),(3,none)] (c136 F T)
def c137 (F T:Nat→Nat):C :=
 .n [.mov (some 2) (.i 0),.mov (some 3) (.s []),.mov (some 4) (.k (.bool false))] <|
 .n [.m 9 0,.c 10 (F 143) [.t 9,.s [32,9]],.m 0 10] <|
 .n [.m 11 0,.ls 12 11,.m 13 0,.c 14 (F 144) [.t 13,.s [61]],.ls 15 14,.b 16 .sub 12 15,.m 5 16] <|
 .n [.m 17 0,.ls 18 17,.m 19 0,.c 20 (F 143) [.t 19,.s [61]],.ls 21 20,.b 22 .sub 18 21,.m 6 22] <|
 .seq (.seq (.ops false [⟨none,[.m 23 5,.bi 24 .eql 23 0,.m 25 24]⟩,
 ⟨some (25,false),[.m 26 6,.bi 27 .eql 26 0]⟩,
 ⟨none,[.pt 28 25 27,.m 29 28]⟩,
 ⟨some (29,false),[.m 30 5,.m 31 0,.ls 32 31,.b 33 .eql 30 32]⟩,
 ⟨none,[.pt 34 29 33]⟩]) <|
 .cond (.t 34)
 (.n [.mov (some 2) (.i 0),.mov (some 3) (.s []),.mov (some 4) (.k (.bool false))] <|
 .ret)
 (.skip)) <|
 .n [.m 35 5,.m 36 6,.mx3 (some 37) false (.i 6) (.t 35) (.t 36),.m 7 37] <|
 .n [.m 38 0,.m 39 7,.m 40 0,.ls 41 40,.m 42 7,.b 43 .sub 41 42,.slcS (some 44) (.t 38) (some (.t 39)) (some (.t 43)),.c 45 (F 140) [.t 44,.s [32,9]],.m 8 45] <|
 .n [.m 46 7,.m 47 8,.m 48 8,.bin (some 49) .neq (.t 48) (.s []),.m 2 46,.m 3 47,.m 4 49] <|
 .ret
abbrev bFm (P:Program) (F T:Nat→Nat):Prop:=Fn P (F 137) 50 [(2,none),(3,none),(4,none)] (c137 F T)
def c138 (F T:Nat→Nat):C :=
 .n [.mov (some 2) (.s [])] <|
 .seq (.block 0 <|
 .loop <|
 .seq (.seq (.ops false [⟨none,[.m 3 0,.ls 4 3,.bi 5 .gtr 4 0,.m 6 5]⟩,
 ⟨some (6,true),[.m 7 0,.m 8 0,.ls 9 8,.bi 10 .sub 9 1,.ix 11 7 10,.bin (some 12) .eql (.t 11) (.k (.int .u8 9)),.m 13 12]⟩,
 ⟨some (13,false),[.m 14 0,.m 15 0,.ls 16 15,.bi 17 .sub 16 1,.ix 18 14 17,.bin (some 19) .eql (.t 18) (.k (.int .u8 32))]⟩,
 ⟨some (6,true),[.pt 20 13 19]⟩,
 ⟨none,[.pf 21 6 20]⟩]) <|
 .cond (.t 21)
 (.skip)
 (.exit 0)) <|
 .block 1 <|
 .o [.m 22 0,.m 23 0,.ls 24 23,.bi 25 .sub 24 1,.slcS (some 26) (.t 22) none (some (.t 25)),.m 0 26]) <|
 .n [.m 27 0,.m 2 27] <|
 .ret
abbrev bOd (P:Program) (F T:Nat→Nat):Prop:=Fn P (F 138) 28 [(2,none)] (c138 F T)
def c139 (F T:Nat→Nat):C :=
 .n [.mov (some 4) (.k (.bool false))] <|
 .seq (.n [.m 6 0,.ll 7 6,.m 8 1,.ll 9 8,.b 10 .neq 7 9] <|
 .cond (.t 10)
 (.n [.mov (some 4) (.k (.bool false))] <|
 .ret)
 (.skip)) <|
 .seq (.n [.mov (some 5) (.i 0)] <|
 .block 0 <|
 .loop <|
 .seq (.n [.m 11 5,.m 12 0,.ll 13 12,.b 14 .lss 11 13] <|
 .cond (.t 14)
 (.skip)
 (.exit 0)) <|
 .seq (.block 1 <|
 .seq (.p [.m 17 0,.m 18 5,.ia 19 5 17 18,.load (some 20) false 5 true (.t 19),.m 21 1,.m 22 5,.ia 23 5 21 22,.load (some 24) false 5 true (.t 23),.eqA (some 25) true [0,1,0,0,0] (.t 20) (.t 24)]) <|
 .cond (.t 25)
 (.n [.mov (some 4) (.k (.bool false))] <|
 .ret)
 (.skip)) <|
 .o [.m 15 5,.bi 16 .add 15 1,.m 5 16]) <|
 .n [.mov (some 4) (.k (.bool true))] <|
 .ret
abbrev bPc (P:Program) (F T:Nat→Nat):Prop:=Fn P (F 139) 26 [(4,none)] (c139 F T)
def c141 (F T:Nat→Nat):C :=
 .n [.alloc 4 (T 14) [(.int .i64 0),(.str []),(.int .i64 0),(.int .i64 0),(.int .i64 0)],.mov (some 5) (.i 0)] <|
 .n [.m 9 0,.c 10 (F 124) [.t 9],.m 8 10,.x 11 0 8,.x 12 1 8,.m 6 11,.m 7 12] <|
 .seq (.n [.m 13 7,.bi 14 .neq 13 0] <|
 .cond (.t 14)
 (.n [.build (some 15) [(.int .i64 0),(.str []),(.int .i64 0),(.int .i64 0),(.int .i64 0)] [],.m 16 7,.store 5 (.t 4) (.t 15),.m 5 16] <|
 .ret)
 (.skip)) <|
 .seq (.seq (.ops false [⟨none,[.m 17 1,.bi 18 .lss 17 0,.m 19 18]⟩,
 ⟨some (19,false),[.m 20 1,.m 21 6,.ll 22 21,.b 23 .geq 20 22]⟩,
 ⟨none,[.pt 24 19 23]⟩]) <|
 .cond (.t 24)
 (.n [.build (some 25) [(.int .i64 0),(.str []),(.int .i64 0),(.int .i64 0),(.int .i64 0)] [],.store 5 (.t 4) (.t 25),.mov (some 5) (.i 2)] <|
 .ret)
 (.skip)) <|
 .n [.m 26 6,.m 27 1,.ia 28 5 26 27,.load (some 29) false 5 true (.t 28),.store 5 (.t 4) (.t 29),.mov (some 5) (.i 0)] <|
 .ret
abbrev bA7 (P:Program) (F T:Nat→Nat):Prop:=Fn P (F 141) 30 [(4,(some (5,true))),(5,none)] (c141 F T)
end Go.Ab
namespace Go.Ab
variable {P:Program} {F T:Nat→Nat}
open Go.Lib
structure StrC0 (P:Program) (F:Nat→Nat):Prop where
 trim:∀ s:List UInt8,s.length≤9223372036854775807→PTr P (F 140) [.str s,.str [32,9]] (.str (trimS s wsp))
 right:∀ s cs:List UInt8,s.length≤100000→cs.length≤2→(∀ b,b∈cs→b.toNat<128)→PTr P (F 143) [.str s,.str cs] (.str (trimRightS s cs))
 left:∀ s cs:List UInt8,s.length≤100000→cs.length≤2→(∀ b,b∈cs→b.toNat<128)→PTr P (F 144) [.str s,.str cs] (.str (trimLeftS s cs))
 ib:∀ (s:List UInt8),PTr P (F 120) [.str s,.int .u8 10] (.int .i64 (indexByte s 10))
theorem aMx (s cs:List UInt8):(trimRightS s cs).length≤s.length:=by
 have:=(List.dropWhile_suffix (l:=s.reverse) (fun x=>cs.contains x)).length_le
 simp only [trimRightS,List.length_reverse] at this ⊢
 exact this
theorem aWl (s cs:List UInt8):(trimLeftS s cs).length≤s.length:=by
 exact (List.dropWhile_suffix (l:=s) (fun x=>cs.contains x)).length_le
theorem bCz {f:Nat} {args:List V} {r:V} (i:Nat) (s:List UInt8) (hi:args[i]?=some (.str s)) (h:s.length≤9223372036854775807→PTr P f args r):PTr P f args r:=by
 intro D w vs hD hg hl hr
 have hb:s.length≤9223372036854775807:=by
  have hx:=hr i _ hi
  generalize vs.getD i undef=v at hx
  cases hx with
  | str _ hh=>omega
 exact h hb D w vs hD hg hl hr
theorem aM4 {f:Nat} {s t r:List UInt8} (hr0:r.length<2^63) (h:∀ w:World,Calls P f #[.string ⟨s.toArray⟩,.string ⟨t.toArray⟩] w fun e w'=>e=.returned (.string ⟨r.toArray⟩)∧Go.RowKit.Below w.heap.size w w'):PTr P f [.str s,.str t] (.str r):=by
 intro D w vs hD hg hl hr
 obtain ⟨u,v,rfl,hu,hv⟩:=vs2 hl hr
 cases hu; cases hv
 refine (h w).mono ?_
 rintro e w' ⟨rfl,hb⟩
 exact ⟨_,rfl,hb,.str _ hr0⟩
theorem bBx
 (h1:∀ (s cs:ByteArray) (w:World),s.size≤9223372036854775807→cs.size<4294967281→(∀ (j:Nat) b,cs.data.toList[j]?=some b→b.toNat<128)→Calls P (F 140) #[.string s,.string cs] w fun e w'=>e=.returned (.string ⟨(trimS s.data.toList cs.data.toList).toArray⟩)∧Go.RowKit.Below w.heap.size w w')
 (h2:∀ (s cs:ByteArray) (w:World),s.size≤9223372036854775807→cs.size<4294967281→(∀ (j:Nat) b,cs.data.toList[j]?=some b→b.toNat<128)→Calls P (F 143) #[.string s,.string cs] w fun e w'=>e=.returned (.string ⟨(trimRightS s.data.toList cs.data.toList).toArray⟩)∧Go.RowKit.Below w.heap.size w w')
 (h3:∀ (s cs:ByteArray) (w:World),cs.size<4294967281→(∀ (j:Nat) b,cs.data.toList[j]?=some b→b.toNat<128)→Calls P (F 144) #[.string s,.string cs] w fun e w'=>e=.returned (.string ⟨(trimLeftS s.data.toList cs.data.toList).toArray⟩)∧Go.RowKit.Below w.heap.size w w')
 (h5:∀ (s:ByteArray) (c:Int) (w:World),Calls P (F 120) #[.string s,.int .u8 c] w fun e w'=>e=.returned (.int .i64 (indexByte s.data.toList c.toNat.toUInt8))∧w'=w):StrC0 P F:=by
 have mem:∀ {cs:List UInt8},(∀ b,b∈cs→b.toNat<128)→∀ (j:Nat) b,cs[j]?=some b→b.toNat<128:=fun h j b hb=>h b (List.mem_of_getElem? hb)
 refine ⟨fun s hs=>aM4 (by have:=aWl (trimRightS s wsp) wsp; have:=aMx s wsp; unfold trimS; omega) fun w=>?_,fun s cs hs hc ha=>aM4 (by have:=aMx s cs; omega) fun w=>?_,fun s cs hs hc ha=>aM4 (by have:=aWl s cs; omega) fun w=>?_,fun s=>?_⟩
 ·exact h1 ⟨s.toArray⟩ ⟨([32,9]:List UInt8).toArray⟩ w (by simp [ByteArray.size]; omega) (by simp [ByteArray.size]) (mem (by decide))
 ·exact h2 ⟨s.toArray⟩ ⟨cs.toArray⟩ w (by simp [ByteArray.size]; omega) (by simp [ByteArray.size]; omega) (mem ha)
 ·exact h3 ⟨s.toArray⟩ ⟨cs.toArray⟩ w (by simp [ByteArray.size]; omega) (mem ha)
 ·intro D w vs hD hg hl hr
  obtain ⟨u,v,rfl,hu,hv⟩:=vs2 hl hr
  cases hu; cases hv
  refine (h5 ⟨s.toArray⟩ 10 w).mono ?_
  rintro e w' ⟨rfl,rfl⟩
  exact ⟨_,rfl,Go.RowKit.Below.refl _ _,.int _ _⟩
theorem aHf (c:UInt8):∀ s:List UInt8,(s.dropWhile ([c].contains ·)).length+runL c s=s.length
 | []=>rfl
 | x::r=>by
   have ih:=aHf c r
   by_cases h:x=c
   ·subst h
    simp [List.dropWhile,runL] at ih ⊢
    omega
   ·have h2:([c].contains x)=false:=by simp [h]
    simp [List.dropWhile,runL,h,h2]
theorem bDh (c:UInt8) (s:List UInt8):(trimLeftS s [c]).length+runL c s=s.length:=aHf c s
theorem aWk (c:UInt8) (s:List UInt8):(trimRightS s [c]).length+runL c s.reverse=s.length:=by
 have:=aHf c s.reverse
 simp only [trimRightS,List.length_reverse] at this ⊢
 exact this
theorem bCa (c:UInt8) (s:List UInt8):runL c s≤s.length:=by have:=aHf c s; omega
theorem aOm {c x:UInt8} (hx:x≠c):∀ (u v:List UInt8),runL c (u++x::v)≤u.length
 | [],v=>by simp [runL,hx]
 | y::u,v=>by
   have ih:=aOm hx u v
   simp only [List.cons_append,runL,List.length_cons]
   split <;> omega
theorem aMb {c:UInt8}:∀ {s:List UInt8},runL c s<s.length→∃ u x v,s=u++x::v∧x≠c∧u.length=runL c s
 | [],h=>by simp [runL] at h
 | y::s,h=>by
   by_cases hy:y=c
   ·subst hy
    have e:runL y (y::s)=runL y s+1:=by simp [runL]
    rw [e] at h ⊢
    obtain ⟨u,x,v,rfl,hx,hu⟩:=aMb (c:=y) (s:=s) (by simpa using h)
    exact ⟨y::u,x,v,rfl,hx,by simp [hu]⟩
   ·exact ⟨[],y,s,rfl,hy,by simp [runL,hy]⟩
theorem aW2 {c:UInt8} {s:List UInt8} (h:runL c s<s.length):runL c s+runL c s.reverse<s.length:=by
 obtain ⟨u,x,v,rfl,hx,hu⟩:=aMb h
 have:=aOm hx v.reverse u.reverse
 have e:(u++x::v).reverse=v.reverse++x::u.reverse:=by simp
 rw [e]
 simp at this ⊢
 omega
theorem aXg (x:UInt8):wsp.contains x=true↔(x.toNat=9∨x.toNat=32):=by
 have h:∀ n:Nat,n<256→(x.toNat=n↔x=UInt8.ofNat n):=fun n hn=>⟨fun e=>by rw [← e]; simp,fun e=>by rw [e]; simp; omega⟩
 rw [h 9 (by omega),h 32 (by omega)]
 simp only [wsp,List.contains_cons,List.contains_nil,Bool.or_false,Bool.or_eq_true,beq_iff_eq]
 exact or_comm
theorem aUd {s:List UInt8} (h:0<s.length):trimRightS s wsp=if (s.getD (s.length-1) 0).toNat=9∨(s.getD (s.length-1) 0).toNat=32 then trimRightS (s.take (s.length-1)) wsp else s:=by
 obtain ⟨u,x,rfl⟩:∃ u x,s=u++[x]:=by
  rcases List.eq_nil_or_concat s with rfl | ⟨u,x,rfl⟩
  ·simp at h
  ·exact ⟨u,x,by simp⟩
 have e1:(u++[x]).getD ((u++[x]).length-1) 0=x:=by simp
 have e2:(u++[x]).take ((u++[x]).length-1)=u:=by simp
 rw [e1,e2]
 by_cases hx:wsp.contains x=true
 ·rw [if_pos ((aXg x).1 hx)]
  simp only [trimRightS,List.reverse_append,List.reverse_cons,List.reverse_nil,List.nil_append,List.cons_append,List.dropWhile,hx]
 ·rw [if_neg (fun q=>hx ((aXg x).2 q))]
  have hx':wsp.contains x=false:=by simpa using hx
  simp only [trimRightS,List.reverse_append,List.reverse_cons,List.reverse_nil,List.nil_append,List.cons_append,List.dropWhile,hx',List.reverse_reverse]
theorem t138 (hf:bOd P F T) (s:List UInt8) (hs:s.length≤9223372036854775807):PTr P (F 138) [.str s] (.str (trimRightS s wsp)):=by
 refine ptrC [] hf (by simp) rfl ?_
 simp only [c138,push_cast,seval,-Nat.reducePow]
 refine aAk (fun m s1=>∃ t,m=t.length∧t.length≤9223372036854775807∧trimRightS t wsp=trimRightS s wsp∧s1.env 0=.str t) s.length ⟨s,?_⟩ fun m s1 hJ=>?_
 ·simp only [push_cast,seval,-Nat.reducePow]
  exact hs
 ·obtain ⟨t,rfl,hl,ht,j0⟩:=hJ
  by_cases h0:0<t.length
  ·have h0':(0:Int)<(t.length:Nat):=by omega
   have hst:=aUd h0
   have e1:(((t.length:Nat):Int)-1).toNat=t.length-1:=by omega
   have e2:(t.take (t.length-1)).length=t.length-1:=by rw [List.length_take]; omega
   obtain ⟨x,hx⟩:∃ x,t.getD (t.length-1) 0=x:=⟨_,rfl⟩
   rw [hx] at hst
   by_cases h9:x.toNat=9
   ·have h9':((x.toNat:Nat):Int)=9:=by omega
    rw [if_pos (.inl h9)] at hst
    simp only [push_cast,seval,-Nat.reducePow,j0,h0',e1,hx,h9']
    repeat refine And.intro (by omega) ?_
    exact ⟨t.length-1,by omega,t.take (t.length-1),e2.symm,by omega,by rw [← hst]; exact ht,rfl⟩
   ·have h9':¬ ((x.toNat:Nat):Int)=9:=by omega
    by_cases h32:x.toNat=32
    ·have h32':((x.toNat:Nat):Int)=32:=by omega
     rw [if_pos (.inr h32)] at hst
     simp only [push_cast,seval,-Nat.reducePow,j0,h0',e1,hx,h9',h32']
     repeat refine And.intro (by omega) ?_
     exact ⟨t.length-1,by omega,t.take (t.length-1),e2.symm,by omega,by rw [← hst]; exact ht,rfl⟩
    ·have h32':¬ ((x.toNat:Nat):Int)=32:=by omega
     rw [if_neg (by omega)] at hst
     simp only [push_cast,seval,-Nat.reducePow,j0,h0',e1,hx,h9',h32']
     repeat refine And.intro (by omega) ?_
     rw [← ht,hst]; rfl
  ·have h0':¬ (0:Int)<(t.length:Nat):=by omega
   have:t=[]:=List.eq_nil_of_length_eq_zero (by omega)
   subst this
   simp only [push_cast,seval,-Nat.reducePow,j0]
   rw [← ht]; rfl
end Go.Ab
namespace Go.Ab
variable {P:Program} {F T:Nat→Nat}
open Go.Lib
def hdT (s:List UInt8):List UInt8:=trimRightS s wsp
def hdN (s:List UInt8):Nat:=min 6 (min (runL 61 (hdT s)) (runL 61 (hdT s).reverse))
def hdS (s:List UInt8):List UInt8:=trimS (((hdT s).take ((hdT s).length-hdN s)).drop (hdN s)) wsp
def aGr (s:List UInt8):Prop:=runL 61 (hdT s)=0∨runL 61 (hdT s).reverse=0∨runL 61 (hdT s)=(hdT s).length
instance (s:List UInt8):Decidable (aGr s):=by unfold aGr; infer_instance
theorem bDg (s:List UInt8):bH4 s=if aGr s then none else if hdS s=[] then none else some (hdN s,hdS s):=rfl
theorem bLt (s:List UInt8):(hdT s).length≤s.length:=aMx s wsp
theorem bEx {s:List UInt8} (h:¬ aGr s):0<hdN s∧2*hdN s<(hdT s).length∧hdN s≤6:=by
 simp only [aGr,not_or] at h
 have:=bCa 61 (hdT s)
 have:=aW2 (c:=61) (s:=hdT s) (by omega)
 unfold hdN
 omega
def hdV (s:List UInt8):V:=if aGr s then .tup [.int .i64 0,.str [],.bool false] else .tup [.int .i64 (hdN s),.str (hdS s),.bool (!decide (hdS s=[]))]
theorem t137 (hf:bFm P F T) (S:StrC0 P F) (s:List UInt8) (hs:s.length≤100000):PTr P (F 137) [.str s] (hdV s):=by
 have hTl:=bLt s
 have e2:=bDh 61 (hdT s)
 have e3:=aWk 61 (hdT s)
 have imm:(hdV s).imm=true:=by unfold hdV; split <;> rfl
 refine ptrC [] hf (by simp) imm ?_
 have hT:trimRightS s wsp=hdT s:=rfl
 have c1:=S.right s wsp hs (by decide) (by decide)
 have c2:=S.left (hdT s) [61] (by omega) (by decide) (by decide)
 have c3:=S.right (hdT s) [61] (by omega) (by decide) (by decide)
 rw [hT] at c1
 have f1:(((hdT s).length:Nat):Int)-(((trimLeftS (hdT s) [61]).length:Nat):Int)=(runL 61 (hdT s):Nat):=by omega
 have f2:(((hdT s).length:Nat):Int)-(((trimRightS (hdT s) [61]).length:Nat):Int)=(runL 61 (hdT s).reverse:Nat):=by omega
 have f3:min (min 6 ((runL 61 (hdT s):Nat):Int)) ((runL 61 (hdT s).reverse:Nat):Int)=(hdN s:Nat):=by unfold hdN; omega
 have f4:(((hdT s).length:Nat):Int)-(hdN s:Nat)=(((hdT s).length-hdN s:Nat):Int)∨aGr s:=by
  by_cases h:aGr s
  ·exact .inr h
  ·have:=bEx h
   exact .inl (by omega)
 simp only [c137,push_cast,seval,-Nat.reducePow]
 refine aAc c1 (by simp only [push_cast,seval,-Nat.reducePow]) (by simp only [push_cast,seval,-Nat.reducePow]) ?_
 simp only [push_cast,seval,-Nat.reducePow]
 refine aAc c2 (by simp only [push_cast,seval,-Nat.reducePow]) (by simp only [push_cast,seval,-Nat.reducePow]) ?_
 simp only [push_cast,seval,-Nat.reducePow]
 repeat refine And.intro (by omega) ?_
 refine aAc c3 (by simp only [push_cast,seval,-Nat.reducePow]) (by simp only [push_cast,seval,-Nat.reducePow]) ?_
 simp only [push_cast,seval,-Nat.reducePow,f1,f2]
 repeat refine And.intro (by omega) ?_
 by_cases h1:runL 61 (hdT s)=0
 ·have h1':((runL 61 (hdT s):Nat):Int)=0:=by omega
  have hb:aGr s:=.inl h1
  simp only [push_cast,seval,-Nat.reducePow,f1,f2,h1',hdV,hb,view,if_true]
 ·have h1':¬ ((runL 61 (hdT s):Nat):Int)=0:=by omega
  by_cases h2:runL 61 (hdT s).reverse=0
  ·have h2':((runL 61 (hdT s).reverse:Nat):Int)=0:=by omega
   have hb:aGr s:=.inr (.inl h2)
   simp only [push_cast,seval,-Nat.reducePow,f1,f2,h1',h2',hdV,hb,view,if_true]
  ·have h2':¬ ((runL 61 (hdT s).reverse:Nat):Int)=0:=by omega
   by_cases h3:runL 61 (hdT s)=(hdT s).length
   ·have h3':((runL 61 (hdT s):Nat):Int)=((hdT s).length:Nat):=by omega
    have hb:aGr s:=.inr (.inr h3)
    have h4':¬ (((hdT s).length:Nat):Int)=0:=by omega
    simp only [push_cast,seval,-Nat.reducePow,f1,f2,h4',h2',h3',hdV,hb,view,if_true]
   ·have h3':¬ ((runL 61 (hdT s):Nat):Int)=((hdT s).length:Nat):=by omega
    have hb:¬ aGr s:=by unfold aGr; omega
    have f5:=f4.resolve_right hb
    obtain ⟨g1,g2,g3⟩:=bEx hb
    simp only [push_cast,seval,-Nat.reducePow,f1,f2,f3,f5,h1',h2',h3',aQ7]
    repeat refine And.intro (by omega) ?_
    refine aAc (S.trim _ (by rw [List.length_drop,List.length_take]; omega)) (by simp only [push_cast,seval,-Nat.reducePow]) (by simp only [push_cast,seval,-Nat.reducePow]) ?_
    have hS:trimS (List.drop (hdN s) (List.take ((hdT s).length-hdN s) (hdT s))) wsp=hdS s:=rfl
    rw [hS]
    simp only [push_cast,seval,-Nat.reducePow,hdV,hb,view,if_false]
end Go.Ab
namespace Go.Ab
variable {P:Program} {F T:Nat→Nat}
def bls (l:List Bool):List V:=l.map .bool
theorem aQu (l:List Bool):(bls l).length=l.length:=by simp [bls]
theorem aM5:∀ l:List Bool,V.imms (bls l)=true
 | []=>rfl
 | x::r=>by simp [bls,V.imms,V.imm]; exact aM5 r
theorem bJ7 (l:List Bool) {i:Nat} (h:i<l.length):(bls l).getD i .junk=.bool (l.getD i false):=by
 simp [bls,List.getD,h]
theorem bEd (l:List Bool) (b:Bool):bls l++[.bool b]=bls (l++[b]):=by simp [bls]
theorem bDo {α:Type} (n:Nat) (a:α):List.replicate n a++[a]=List.replicate (n+1) a:=by
 rw [List.replicate_succ']
theorem bEc (x:Node):srcs [x]=x.src:=by simp [srcs]
theorem aTj:∀ (d:List Node) (x:Node) (r:List Node),(srcs (d++x::r)).length=(srcs d).length+x.src.length+(srcs r).length
 | [],x,r=>by simp [srcs]
 | y::d,x,r=>by
   have:=aTj d x r
   simp only [List.cons_append,srcs,List.length_append] at this ⊢
   omega
theorem aQg (d:List Node) (x:Node):aA7 (d++[x])=aA7 d++List.replicate x.src.length (decide (x.kind=1)):=by
 rw [aVt]; simp [aA7]
theorem aOs {L:Heap} {i ty z sz n:Nat} {k:IntKind} {m:Int} {es:List V} (h:L i=some (.vec ty z es)) (hi:V.imms es=true) (hn:n=es.length):view L 3 (.tup [.own i sz 0 n,.int k m])=.tup [.lst sz es,.int k m]:=by
 subst hn
 have:=aJ9 (sz:=sz) h hi
 simp only [view,List.map_cons,List.map_nil] at this ⊢
 rw [this]
theorem t136 (hf:bFu P F T) (h2:∀ l:List Node,aAq l≤2^26→PTr P (F 2) [.lst 5 (encs l)] (.str (srcs l))) (s:List UInt8) (l:List Node) (hp:PTr P (F 36) [.str s] (.tup [.lst 5 (encs l),.int .i64 0])) (hs:s.length≤100000) (hb:aAq l≤2^26) (hl:(srcs l).length≤100000) (hn:l.length≤1000000) :
 PTr P (F 136) [.str s] (.tup [.lst 1 (bls (aA7 l)),.int .i64 0]):=by
 refine ptrC [] hf (by simp) (by simp [V.imm,V.imms,aM5]) ?_
 simp only [c136,push_cast,seval,-Nat.reducePow]
 refine aAc hp (by simp only [push_cast,seval,-Nat.reducePow]) (by simp only [push_cast,seval,-Nat.reducePow,aEf]) ?_
 simp only [push_cast,seval,-Nat.reducePow]
 repeat refine And.intro (by omega) ?_
 refine aAk (fun m s1=>∃ d r id,l=d++r∧m=r.length∧s1.env 20=.lst 5 (encs l)∧s1.env 21=.int .i64 l.length∧s1.env 22=.int .i64 d.length∧s1.env 6=.own id 1 0 (aA7 d).length∧s1.L id=some (.vec (T 15) 1 (bls (aA7 d)))∧id<s1.nx) l.length ⟨[],l,142,?_⟩ fun m s1 hJ=>?_
 ·simp only [push_cast,seval,-Nat.reducePow]
  exact ⟨rfl,rfl⟩
 ·obtain ⟨d,r,id,rfl,rfl,j0,j5,j4,j3,jL,hid⟩:=hJ
  cases r with
  | nil =>
    have h0:¬ ((d.length:Nat):Int)<(((d++[]).length:Nat):Int):=by simp
    simp only [push_cast,seval,-Nat.reducePow,j0,j3,j4,j5,jL,h0]
    exact aOs jL (aM5 _) (aQu _).symm
  | cons x r =>
    have h0:((d.length:Nat):Int)<(((d++x::r).length:Nat):Int):=by simp; omega
    have hx:=aYs d x r
    rw [aTj] at hl
    have hb1:aAq [x]≤2^26:=by
     have:=aAs d (x::r)
     have e1:aAq (x::r)=aAq [x]+aAq r:=aAs [x] r
     omega
    have h2x:=h2 [x] hb1
    have hpl:aA7 (d++[x])=aA7 d++List.replicate x.src.length (decide (x.kind=1)):=aQg d x
    rw [bEc] at h2x
    have hdl:(aA7 d).length=(srcs d).length:=aGh d
    have hn2:d.length≤1000000:=by rw [List.length_append] at hn; omega
    generalize x.src=w at *
    obtain ⟨k,tg,tx,ks,av⟩:=x
    simp only [push_cast,seval,-Nat.reducePow,j0,j3,j4,j5,jL,h0,hx,Node.cs]
    refine aAc h2x (by simp only [push_cast,seval,-Nat.reducePow,Node.cs]) (by simp only [push_cast,seval,-Nat.reducePow]) ?_
    simp only [push_cast,seval,-Nat.reducePow,j0,j3,j4,j5,jL,h0,hx,Node.cs]
    have hbb:decide ((Node.mk k tg tx ks av).kind=1)=decide (k=1):=rfl
    rw [hbb] at hpl
    refine aAk (fun m s2=>∃ j id2,j≤w.length∧m=w.length-j∧s2.env 20=.lst 5 (encs (d++Node.mk k tg tx ks av::r))∧s2.env 21=.int .i64 (d++Node.mk k tg tx ks av::r).length∧s2.env 22=.int .i64 d.length∧s2.env 29=.int .i64 w.length∧s2.env 30=.int .i64 j∧s2.env 8=.ptr (s1.nx+49) 0∧s2.env 6=.own id2 1 0 ((aA7 d).length+j)∧s2.L id2=some (.vec (T 15) 1 (bls (aA7 d++List.replicate j (decide (k=1)))))∧s2.L (s1.nx+49)=some (.box (T 0) [.int .i64 k,.int .i64 tg,.str tx,.lst 5 (encs ks),.lst 3 (encA av)])∧id2<s2.nx∧s1.nx+49<s2.nx∧id2≠s1.nx+49) w.length ⟨0,id,?_⟩ fun m s2 hJ=>?_
    ·have hne:id≠s1.nx+49:=by omega
     simp only [push_cast,seval,-Nat.reducePow,j0,j3,j4,j5,jL,hne]
     simp
     omega
    ·obtain ⟨j,id2,hj,rfl,k0,k1,k2,k3,k4,k5,k6,kL,kB,kid,kq,kne⟩:=hJ
     by_cases hjw:j<w.length
     ·have hjw':((j:Nat):Int)<((w.length:Nat):Int):=by omega
      have hlen:(bls (aA7 d++List.replicate j (decide (k=1)))).length=(aA7 d).length+j:=by rw [aQu,List.length_append,List.length_replicate]
      have htk:List.take ((aA7 d).length+j) (bls (aA7 d++List.replicate j (decide (k=1))))=bls (aA7 d++List.replicate j (decide (k=1))):=List.take_of_length_le (by omega)
      have hsn:bls (aA7 d++List.replicate j (decide (k=1)))++[.bool (decide (k=1))]=bls (aA7 d++List.replicate (j+1) (decide (k=1))):=by rw [bEd,List.append_assoc,bDo]
      have hne2:s1.nx+49≠s2.nx+37:=by omega
      have hne3:s1.nx+49≠id2:=by omega
      simp only [push_cast,seval,-Nat.reducePow,k0,k1,k2,k3,k4,k5,k6,kL,kB,hjw',hlen,htk,hsn,hne2,hne3]
      refine ⟨by omega,by omega,w.length-(j+1),by omega,j+1,s2.nx+78,by omega,rfl,by simp,rfl,aAh _ _ _,?_,by omega,by omega,by omega⟩
      rw [aAi _ _ _ _ (by omega),aAi _ _ _ _ (by omega)]; exact kB
     ·have hjw':¬ ((j:Nat):Int)<((w.length:Nat):Int):=by omega
      obtain rfl:j=w.length:=by omega
      simp only [push_cast,seval,-Nat.reducePow,k0,k1,k2,k3,k4,k5,k6,kL,kB,hjw']
      repeat refine And.intro (by omega) ?_
      refine ⟨r.length,by simp,d++[.mk k tg tx ks av],r,id2,by simp,rfl,by simp,?_,?_,by omega⟩
      ·rw [hpl]; simp
      ·rw [hpl]; exact kL
end Go.Ab
namespace Go.Ab
variable {P:Program} {F T:Nat→Nat}
open Go.Lib
theorem aEq (l:List Sec):(secV l).length=l.length:=by simp [secV]
theorem aEo:∀ l:List Sec,V.imms (secV l)=true
 | []=>rfl
 | x::r=>by simp [secV,V.imms,V.imm,Sec.v]; exact aEo r
theorem aYr (l:List Sec) (x:Sec):secV l++[x.v]=secV (l++[x]):=by simp [secV]
theorem aXv (d:List Sec) (x:Sec) (r:List Sec):(secV (d++x::r)).getD d.length .junk=x.v:=by
 simp [secV,List.getD]
theorem bDv (d:List Sec) (x y:Sec) (r:List Sec):(secV (d++x::r)).set d.length y.v=secV (d++y::r):=by
 simp only [secV,List.map_append,List.map_cons]
 rw [List.set_append_right _ _ (by simp)]
 simp
theorem aYt:∀ s:List UInt8,indexByte s 10=if aCq s<s.length then (aCq s:Int) else -1
 | []=>rfl
 | x::r=>by
   have ih:=aYt r
   by_cases hx:x=10
   ·subst hx
    simp [indexByte,aCq]
   ·have e:aCq (x::r)=aCq r+1:=by simp [aCq,hx]
    have hx':(x==10)=false:=by simpa using hx
    rw [e]
    simp only [indexByte,hx',List.length_cons,Bool.false_eq_true,if_false]
    rw [ih]
    by_cases h:aCq r<r.length
    ·have h2:aCq r+1<r.length+1:=by omega
     have h3:(((aCq r:Nat):Int)==-1)=false:=by rw [beq_eq_false_iff_ne]; omega
     simp only [h,h2,if_true,h3,Bool.false_eq_true,if_false]
     omega
    ·have h2:¬ aCq r+1<r.length+1:=by omega
     simp only [h,h2,if_false]
     rfl
def allP (p:List Bool) (i j:Nat):Bool:=((p.take j).drop i).all id
theorem bD9 (p:List Bool) (i:Nat):allP p i i=true:=by simp [allP]
theorem aYc (p:List Bool) {i j:Nat} (hi:i≤j) (hj:j<p.length):allP p i (j+1)=(allP p i j&&p.getD j false):=by
 simp only [allP]
 rw [List.take_succ_eq_append_getElem hj,List.drop_append_of_le_length (by simp; omega),List.all_append]
 simp [List.getD,hj]
theorem bAb (s:List UInt8) (p:List Bool) {i:Nat} (h:i<s.length):rawF s p (s.length+1) i=aFx s p i++rawF s p (s.length+1) (min (aCt s i+1) s.length):=by
 have:=aEp (s:=s) (i:=i) (by omega)
 conv=>lhs; rw [rawF]
 rw [if_pos h,aPx s p s.length (s.length+1) _ (by omega) (by omega)]
theorem bB8 (s:List UInt8) (p:List Bool) (n:Nat) {i:Nat} (h:s.length≤i):rawF s p n i=[]:=by
 cases n with
 | zero=>rfl
 | succ n=>rw [rawF,if_neg (by omega)]
def endS (x:Sec) (n:Nat):Sec:={ x with to:=n }
theorem bAf {x:Sec} {q:List Sec} (h:∀ y,y∈q→x.lev<y.lev):toOf x q=x:=by
 have:q.find? (fun y=>decide (y.lev≤x.lev))=none:=by
  rw [List.find?_eq_none]
  intro y hy
  have:=h y hy
  simp; omega
 simp [toOf,this]
theorem aX9 {x y:Sec} {u v:List Sec} (h:∀ y,y∈u→x.lev<y.lev) (hy:y.lev≤x.lev):toOf x (u++y::v)=endS x y.fr:=by
 have:(u++y::v).find? (fun y=>decide (y.lev≤x.lev))=some y:=by
  rw [List.find?_append]
  have:u.find? (fun y=>decide (y.lev≤x.lev))=none:=by
   rw [List.find?_eq_none]
   intro y hy
   have:=h y hy
   simp; omega
  rw [this]
  simp [hy]
 simp [toOf,this,endS]
theorem aS2 {s:List UInt8} {i:Nat} (h:i≤s.length):(s.drop i).length=s.length-i:=List.length_drop
def hdOk (s:List UInt8):Bool:=!decide (aGr s)&&!decide (hdS s=[])
theorem bEb (s:List UInt8) (p:List Bool) (i:Nat):aFx s p i =
 if (hdOk ((s.take (aCt s i)).drop i)&&allP p i (aCt s i))=true then [⟨hdN ((s.take (aCt s i)).drop i),hdS ((s.take (aCt s i)).drop i),i,min (aCt s i+1) s.length,s.length⟩] else []:=by
 simp only [aFx,bDg,hdOk,allP]
 by_cases h1:((p.take (aCt s i)).drop i).all id=true
 rotate_left
 ·simp [h1]
 ·by_cases h2:aGr ((s.take (aCt s i)).drop i)
  ·simp [h2]
  ·by_cases h3:hdS ((s.take (aCt s i)).drop i)=[] <;> simp [h1,h2,h3]
theorem t124 (hf:bKb P F T) (S:StrC0 P F) (h137:bFm P F T) (s:List UInt8) (hs:s.length≤8192) (h136:PTr P (F 136) [.str s] (.tup [.lst 1 (bls (aA7 (aCc s))),.int .i64 0])):PTr P (F 124) [.str s] (.tup [.lst 5 (secV (aCm s)),.int .i64 0]):=by
 obtain ⟨p,hp⟩:∃ p,p=aA7 (aCc s):=⟨_,rfl⟩
 have hpl:p.length=s.length:=by rw [hp,aGh,aGw]
 have hsec:aCm s=toF (rawF s p (s.length+1) 0):=by rw [aCm,hp]
 have hcnt:=aH1 s p (s.length+1) 0
 rw [← hp] at h136
 refine ptrC [] hf (by simp) (by simp [V.imm,V.imms,aEo]) ?_
 simp only [c124,push_cast,seval,-Nat.reducePow]
 refine aAc h136 (by simp only [push_cast,seval,-Nat.reducePow]) (by simp only [push_cast,seval,-Nat.reducePow,aM5]) ?_
 simp only [push_cast,seval,-Nat.reducePow]
 refine aAk (fun m s1=>∃ a i id,rawF s p (s.length+1) 0=a++rawF s p (s.length+1) i∧m=s.length-i∧i≤s.length∧a.length≤i∧s1.env 0=.str s∧s1.env 4=.lst 1 (bls p)∧s1.env 7=.int .i64 i∧s1.env 6=.own id 5 0 a.length∧s1.L id=some (.vec (T 14) 5 (secV a))∧id<s1.nx) s.length ⟨[],0,476,?_⟩ fun m s1 hJ=>?_
 ·simp only [push_cast,seval,-Nat.reducePow]
  exact ⟨by omega,rfl⟩
 ·obtain ⟨a,i,id,hra,rfl,hi,hal,j0,j4,j7,j6,jL,hid⟩:=hJ
  by_cases hlt:i<s.length
  ·have hlt':((i:Nat):Int)<((s.length:Nat):Int):=by omega
   have hle:=aEp (s:=s) (i:=i) hi
   rw [bAb s p hlt] at hra
   have hib:=S.ib (s.drop i)
   rw [aYt,aS2 hi] at hib
   have hsq:=bEb s p i
   have hEd:aCt s i=i+aCq (s.drop i):=rfl
   generalize aCt s i=E at *
   obtain ⟨N,hN⟩:∃ N,N=min (E+1) s.length:=⟨_,rfl⟩
   rw [← hN] at hra hsq
   simp only [push_cast,seval,-Nat.reducePow,j0,j4,j7,j6,jL,hlt',List.take_length]
   refine aE2 (fun s2=>s2.env 0=.str s∧s2.env 4=.lst 1 (bls p)∧s2.env 7=.int .i64 i∧s2.env 6=.own id 5 0 a.length∧s2.L id=some (.vec (T 14) 5 (secV a))∧id<s2.nx∧s2.env 8=.int .i64 E∧s2.env 9=.int .i64 N) ?_ ?_
   ·simp only [push_cast,seval,-Nat.reducePow,j0,j4,j7,j6,jL,List.take_length]
    repeat refine And.intro (by omega) ?_
    by_cases hl:aCq (s.drop i)<s.length-i
    ·rw [if_pos hl] at hib
     have hl0:(0:Int)≤((aCq (s.drop i):Nat):Int):=by omega
     have e1:((i:Nat):Int)+((aCq (s.drop i):Nat):Int)=(E:Nat):=by omega
     have e2:((E:Nat):Int)+1=(N:Nat):=by omega
     refine aAc hib (by simp only [push_cast,seval,-Nat.reducePow]) (by simp only [push_cast,seval,-Nat.reducePow]) ?_
     simp only [push_cast,seval,-Nat.reducePow,j0,j4,j7,j6,jL,hl0,e1,e2]
     omega
    ·rw [if_neg hl] at hib
     have hle2:=aNi (s.drop i)
     rw [aS2 hi] at hle2
     obtain rfl:E=s.length:=by omega
     obtain rfl:N=s.length:=by omega
     refine aAc hib (by simp only [push_cast,seval,-Nat.reducePow]) (by simp only [push_cast,seval,-Nat.reducePow]) ?_
     simp only [push_cast,seval,-Nat.reducePow,j0,j4,j7,j6,jL]
     omega
   ·rintro s2 ⟨k0,k4,k7,k6,kL,kid,k8,k9⟩
    simp only [push_cast,seval,-Nat.reducePow,k0,k4,k7,k6,kL,k8,k9]
    refine aAk (fun m s3=>∃ j,i≤j∧j≤E∧m=E-j∧s3.env 0=.str s∧s3.env 4=.lst 1 (bls p)∧s3.env 7=.int .i64 i∧s3.env 6=.own id 5 0 a.length∧s3.L id=some (.vec (T 14) 5 (secV a))∧id<s3.nx∧s3.env 8=.int .i64 (E)∧s3.env 9=.int .i64 N∧s3.env 12=.int .i64 j∧s3.env 11=.bool (allP p i j)) (E-i) ⟨i,?_⟩ fun m s3 hJ=>?_
    ·simp only [push_cast,seval,-Nat.reducePow,k0,k4,k7,k6,kL,k8,k9,bD9]
     omega
    ·obtain ⟨j,hij,hje,rfl,g0,g4,g7,g6,gL,gid,g8,g9,g12,g11⟩:=hJ
     by_cases hj:j<E
     ·have hj':((j:Nat):Int)<((E:Nat):Int):=by omega
      have hjp:j<p.length:=by omega
      have hat:=bJ7 p hjp
      have hjb:j<(bls p).length:=by rw [aQu]; exact hjp
      have hst:=aYc p hij hjp
      cases hb:allP p i j with
      | true =>
        rw [hb,Bool.true_and] at hst
        rw [hb] at g11
        simp only [push_cast,seval,-Nat.reducePow,g0,g4,g7,g6,gL,g8,g9,g12,g11,hj',hat]
        exact ⟨hjb,by omega,E-(j+1),by omega,j+1,by omega,by omega,rfl,by omega,by simp,by rw [hst]⟩
      | false =>
        rw [hb,Bool.false_and] at hst
        rw [hb] at g11
        simp only [push_cast,seval,-Nat.reducePow,g0,g4,g7,g6,gL,g8,g9,g12,g11,hj']
        exact ⟨by omega,E-(j+1),by omega,j+1,by omega,by omega,rfl,by omega,by simp,by rw [hst]⟩
     ·have hj':¬ ((j:Nat):Int)<((E:Nat):Int):=by omega
      obtain rfl:E=j:=by omega
      simp only [push_cast,seval,-Nat.reducePow,g0,g4,g7,g6,gL,g8,g9,g12,g11,hj']
      refine aE2 (fun s4=>∃ id2,s4.env 0=.str s∧s4.env 4=.lst 1 (bls p)∧s4.env 9=.int .i64 N∧s4.env 6=.own id2 5 0 (a++aFx s p i).length∧s4.L id2=some (.vec (T 14) 5 (secV (a++aFx s p i)))∧id2<s4.nx) ?_ ?_
      ·have hcal:=t137 h137 S ((s.take E).drop i) (by rw [List.length_drop,List.length_take]; omega)
       have himm:(hdV ((s.take E).drop i)).imm=true:=by unfold hdV; split <;> rfl
       have htk:List.take a.length (secV a)=secV a:=List.take_of_length_le (by rw [aEq]; omega)
       have htl:((a.length:Nat):Int)=((secV a).length:Nat):=by rw [aEq]
       simp only [push_cast,seval,-Nat.reducePow,g0,g4,g7,g6,gL,g8,g9,g12,g11]
       repeat refine And.intro (by omega) ?_
       refine aAc hcal (by simp only [push_cast,seval,-Nat.reducePow]) himm ?_
       generalize (s.take E).drop i=ln at *
       simp only [hdV] at himm ⊢
       by_cases hbad:aGr ln
       ·have hs0:aFx s p i=[]:=by rw [hsq]; simp [hdOk,hbad]
        rw [if_pos hbad,hs0,List.append_nil]
        simp only [push_cast,seval,-Nat.reducePow,g0,g4,g7,g6,gL,g8,g9,g12,g11]
        exact ⟨id,rfl,gL,by omega⟩
       ·rw [if_neg hbad]
        by_cases hem:hdS ln=[]
        ·have hs0:aFx s p i=[]:=by rw [hsq]; simp [hdOk,hbad,hem]
         rw [hs0,List.append_nil]
         simp only [push_cast,seval,-Nat.reducePow,g0,g4,g7,g6,gL,g8,g9,g12,g11,hem]
         exact ⟨id,rfl,gL,by omega⟩
        ·cases hall:allP p i E with
         | false =>
           have hs0:aFx s p i=[]:=by rw [hsq]; simp [hdOk,hbad,hem,hall]
           rw [hs0,List.append_nil]
           rw [hall] at g11
           simp only [push_cast,seval,-Nat.reducePow,g0,g4,g7,g6,gL,g8,g9,g12,g11,hem]
           exact ⟨id,rfl,gL,by omega⟩
         | true =>
           have hs0:aFx s p i=[⟨hdN ln,hdS ln,i,N,s.length⟩]:=by rw [hsq]; simp [hdOk,hbad,hem,hall]
           have hsn:=aYr a ⟨hdN ln,hdS ln,i,N,s.length⟩
           simp only [Sec.v] at hsn
           rw [hs0]
           rw [hall] at g11
           simp only [push_cast,seval,-Nat.reducePow,g0,g4,g7,g6,gL,g8,g9,g12,g11,hem,htk,hsn]
           exact ⟨by rw [aEq]; omega,by omega,s3.nx+439,by simp,aAh _ _ _,by omega⟩
      ·rintro s4 ⟨id2,m0,m4,m9,m6,mL,mid⟩
       simp only [push_cast,seval,-Nat.reducePow,m0,m4,m9,m6,mL]
       have hsl:(aFx s p i).length≤1:=by rw [hsq]; split <;> simp
       exact ⟨s.length-N,by omega,a++aFx s p i,N,id2,by rw [hra,List.append_assoc],rfl,by omega,by rw [List.length_append]; omega,rfl,rfl,mL,by omega⟩
  ·have hlt':¬ ((i:Nat):Int)<((s.length:Nat):Int):=by omega
   obtain rfl:i=s.length:=by omega
   rw [bB8 s p _ (Nat.le_refl _),List.append_nil] at hra
   simp only [push_cast,seval,-Nat.reducePow,j0,j4,j7,j6,jL,hlt']
   refine aAk (fun m s2=>∃ d r id,toF a=d++toF r∧a.length=d.length+r.length∧m=r.length∧s2.env 85=.int .i64 a.length∧s2.env 86=.int .i64 d.length∧s2.env 6=.own id 5 0 a.length∧s2.L id=some (.vec (T 14) 5 (secV (d++r)))∧id<s2.nx) a.length ⟨[],a,id,?_⟩ fun m s2 hJ=>?_
   ·simp only [push_cast,seval,-Nat.reducePow,j0,j4,j7,j6,jL]
    omega
   ·obtain ⟨d,r,id,htf,hlen,rfl,k5,k6,k7,kL,kid⟩:=hJ
    cases r with
    | nil =>
      have hd:¬ ((d.length:Nat):Int)<((a.length:Nat):Int):=by simp at hlen; omega
      simp only [push_cast,seval,-Nat.reducePow,k5,k6,k7,kL,hd]
      rw [hsec,hra,htf]
      simp only [toF]
      exact aOs kL (aEo _) (by rw [aEq,List.length_append,hlen])
    | cons x q =>
      have hd:((d.length:Nat):Int)<((a.length:Nat):Int):=by simp at hlen; omega
      simp only [List.length_cons] at hlen
      simp only [push_cast,seval,-Nat.reducePow,k5,k6,k7,kL,hd]
      repeat refine And.intro (by omega) ?_
      refine aAk (fun m s3=>∃ u v,q=u++v∧(∀ y,y∈u→x.lev<y.lev)∧m=v.length∧s3.env 85=.int .i64 a.length∧s3.env 86=.int .i64 d.length∧s3.env 16=.int .i64 d.length∧s3.env 17=.int .i64 (d.length+1+u.length:Nat)∧s3.env 6=.own id 5 0 a.length∧s3.L id=some (.vec (T 14) 5 (secV (d++x::q)))∧id<s3.nx) q.length ⟨[],q,?_⟩ fun m s3 hJ=>?_
      ·simp only [push_cast,seval,-Nat.reducePow,k5,k6,k7,kL]
       omega
      ·obtain ⟨u,v,rfl,hu,rfl,g5,g6,g16,g17,g7,gL,gid⟩:=hJ
       have hx:=aXv d x (u++v)
       generalize hK:d.length+1+u.length=K at *
       simp only [List.length_append] at hlen
       cases v with
       | nil =>
         have hk:¬ ((K:Nat):Int)<((a.length:Nat):Int):=by simp at hlen; omega
         simp only [push_cast,seval,-Nat.reducePow,g5,g6,g16,g17,g7,gL,hk]
         have htn:=bAf (x:=x) (q:=u) hu
         simp only [List.append_nil] at htf gL ⊢
         refine ⟨by omega,u.length,by omega,d++[x],u,id,?_,by simp; omega,rfl,by simp,rfl,by simpa using gL,by omega⟩
         rw [htf]; simp [toF,htn]
       | cons y v =>
         have hk:((K:Nat):Int)<((a.length:Nat):Int):=by simp at hlen; omega
         have hy:(secV (d++x::(u++y::v))).getD K .junk=y.v:=by
          have:=aXv (d++x::u) y v
          rw [show (d++x::u).length=K by simp; omega] at this
          simpa using this
         by_cases hyx:y.lev≤x.lev
         ·have hyx':((y.lev:Nat):Int)≤((x.lev:Nat):Int):=by omega
          simp only [push_cast,seval,-Nat.reducePow,g5,g6,g16,g17,g7,gL,hk,hx,hy,Sec.v,hyx']
          have hls:(secV (d++x::(u++y::v))).length=d.length+(u.length+(v.length+1)+1):=by rw [aEq]; simp
          have hse:=bDv d x (endS x y.fr) (u++y::v)
          have hts:=aX9 (x:=x) (y:=y) (u:=u) (v:=v) hu hyx
          simp only [Sec.v,endS] at hse hts
          refine ⟨by omega,by omega,by omega,by omega,by omega,by omega,by omega,by omega,by omega,(u++y::v).length,Nat.lt_succ_self _,d++[toOf x (u++y::v)],u++y::v,id,?_,by simp at hlen ⊢; omega,rfl,by simp,rfl,?_,by omega⟩
          ·rw [htf]; simp [toF]
          ·rw [aAh,hse,hts]; simp
         ·have hyx':¬ ((y.lev:Nat):Int)≤((x.lev:Nat):Int):=by omega
          simp only [push_cast,seval,-Nat.reducePow,g5,g6,g16,g17,g7,gL,hk,hx,hy,Sec.v,hyx']
          have hls:(secV (d++x::(u++y::v))).length=d.length+(u.length+(v.length+1)+1):=by rw [aEq]; simp
          refine ⟨by omega,by omega,by omega,by omega,by omega,v.length,by omega,u++[y],v,by simp,?_,rfl,?_,by omega⟩
          ·intro z hz
           rw [List.mem_append,List.mem_singleton] at hz
           rcases hz with hz | rfl
           ·exact hu z hz
           ·omega
          ·simp; omega
end Go.Ab
namespace Go.Ab
variable {P:Program} {F T:Nat→Nat}
open Go.Lib
def bAs (P:Program) (f:Nat):Prop:=∀ s:List UInt8,s.length≤8192→PTr P f [.str s] (.tup [.lst 5 (secV (aCm s)),.int .i64 0])
theorem bJ6 {f:Nat} {args:List V} {r r':V} (h:PTr P f args r) (hl:r.le r'):PTr P f args r':=by
 intro D w vs hD hg hn hr
 refine (h D w vs hD hg hn hr).mono ?_
 rintro e w' ⟨v,h1,h2,h3⟩
 exact ⟨v,h1,h2,h3.le hl⟩
theorem bCq (hf:bFu P F T) (h2:∀ l:List Node,aAq l≤2^26→PTr P (F 2) [.lst 5 (encs l)] (.str (srcs l))) (s:List UInt8) (hp:PTr P (F 36) [.str s] (.tup [ln 5 (vns (aCc s)),.int .i64 0])) (hs:s.length≤8192) :
 PTr P (F 136) [.str s] (.tup [.lst 1 (bls (aA7 (aCc s))),.int .i64 0]):=by
 have hb:=aRf s
 have hr:=aGw s
 refine t136 hf h2 s (aCc s) (bJ6 hp ?_) (by omega) (by omega) (by rw [hr]; omega) ?_
 ·simp only [V.le]
  refine ⟨_,rfl,?_⟩
  rw [aFm,aFm,aMy,and_true]
  exact ⟨aYx (aPc _),V.le_refl _⟩
 ·have:=aDq (aCc s)
  omega
theorem t139 (hf:bPc P F T) (l:List Sec) (hl:l.length≤100000):PTr P (F 139) [.lst 5 (secV l),.lst 5 (secV l)] (.bool true):=by
 refine ptrC [] hf (by simp [aEo]) rfl ?_
 have hlen:=aEq l
 simp only [c139,push_cast,seval,-Nat.reducePow]
 refine aAk (fun m s1=>∃ i,i≤l.length∧m=l.length-i∧s1.env 0=.lst 5 (secV l)∧s1.env 1=.lst 5 (secV l)∧s1.env 5=.int .i64 i) l.length ⟨0,?_⟩ fun m s1 hJ=>?_
 ·simp only [push_cast,seval,-Nat.reducePow]
  omega
 ·obtain ⟨i,hi,rfl,j0,j1,j5⟩:=hJ
  by_cases h:i<l.length
  ·have h':((i:Nat):Int)<((secV l).length:Nat):=by omega
   have hx:(secV l).getD i .junk=(l[i]).v:=by simp [secV,List.getD,h]
   obtain ⟨lv,ti,fr,bd,to⟩:=l[i]
   simp only [Sec.v] at hx
   simp only [push_cast,seval,-Nat.reducePow,j0,j1,j5,h',hx]
   refine ⟨by omega,by omega,by omega,l.length-(i+1),by omega,i+1,by omega,rfl,by simp⟩
  ·have h':¬ ((i:Nat):Int)<((secV l).length:Nat):=by omega
   simp only [push_cast,seval,-Nat.reducePow,j0,j1,j5,h',view]
def bIm (s:List UInt8):List UInt8:=match aCm s with | []=>s | x::_=>s.take x.fr
def zsec:Sec:=⟨0,[],0,0,0⟩
def aGq (l:List Sec) (i:Int):Sec:=if 0≤i∧i<l.length then l.getD i.toNat zsec else zsec
def aM2 (l:List Sec) (i:Int):Int:=if 0≤i∧i<l.length then 0 else 2
theorem t141 (hf:bA7 P F T) (h124:bAs P (F 124)) (s:List UInt8) (hs:s.length≤8192) (i:Int):PTr P (F 141) [.str s,.int .i64 i] (.tup [(aGq (aCm s) i).v,.int .i64 (aM2 (aCm s) i)]):=by
 have h1:=h124 s hs
 refine ptrC [] hf (by simp) (by simp [V.imm,V.imms,Sec.v]) ?_
 simp only [c141,push_cast,seval,-Nat.reducePow]
 refine aAc h1 (by simp only [push_cast,seval,-Nat.reducePow]) (by simp only [push_cast,seval,-Nat.reducePow,aEo]) ?_
 generalize aCm s=l
 have hlen:=aEq l
 by_cases h0:i<0
 ·have hp:aGq l i=zsec:=by unfold aGq; rw [if_neg (by omega)]
  have he:aM2 l i=2:=by unfold aM2; rw [if_neg (by omega)]
  simp only [push_cast,seval,-Nat.reducePow,h0,hp,he,zsec,Sec.v,view]
 ·by_cases h2:(l.length:Int)≤i
  ·have hp:aGq l i=zsec:=by unfold aGq; rw [if_neg (by omega)]
   have he:aM2 l i=2:=by unfold aM2; rw [if_neg (by omega)]
   have h2':(((secV l).length:Nat):Int)≤i:=by omega
   simp only [push_cast,seval,-Nat.reducePow,h0,h2',hp,he,zsec,Sec.v,view]
  ·have h2':¬ (((secV l).length:Nat):Int)≤i:=by omega
   have hp:aGq l i=l.getD i.toNat zsec:=by unfold aGq; rw [if_pos (by omega)]
   have he:aM2 l i=0:=by unfold aM2; rw [if_pos (by omega)]
   obtain ⟨k,rfl⟩:∃ k:Nat,i=k:=⟨i.toNat,by omega⟩
   have hk:k<l.length:=by omega
   have hx:(secV l).getD k .junk=(l.getD k zsec).v:=by simp [secV,List.getD,hk]
   simp only [Int.toNat_natCast] at hp
   rw [hp,he]
   generalize l.getD k zsec=x at *
   obtain ⟨lv,ti,fr,bd,to⟩:=x
   simp only [Sec.v] at hx ⊢
   simp only [push_cast,seval,-Nat.reducePow,h0,h2',hx,view]
   omega
theorem bEe (s:List UInt8) (i:Int):(aGq (aCm s) i).fr≤(aGq (aCm s) i).bd∧(aGq (aCm s) i).bd≤(aGq (aCm s) i).to∧(aGq (aCm s) i).to≤s.length:=by
 unfold aGq
 split
 ·rename_i h
  have hk:i.toNat<(aCm s).length:=by omega
  have hm:(aCm s).getD i.toNat zsec∈aCm s:=by simp [List.getD,hk]
  have:=aZ9 s _ hm
  exact ⟨Nat.le_of_lt this.bd,this.le,this.to⟩
 ·exact ⟨Nat.le_refl _,Nat.le_refl _,Nat.zero_le _⟩
def bG6 (s:List UInt8) (i:Int):List UInt8:=(s.take (aGq (aCm s) i).to).drop (aGq (aCm s) i).fr
theorem t132 (hf:bGm P F T) (h141:bA7 P F T) (h124:bAs P (F 124)) (s:List UInt8) (hs:s.length≤8192) (i:Int):PTr P (F 132) [.str s,.int .i64 i] (.tup [.str (bG6 s i),.int .i64 (aM2 (aCm s) i)]):=by
 have h1:=t141 h141 h124 s hs i
 obtain ⟨o1,o2,o3⟩:=bEe s i
 refine ptrC [] hf (by simp) rfl ?_
 simp only [c132,push_cast,seval,-Nat.reducePow]
 unfold bG6
 generalize aGq (aCm s) i=x at *
 generalize aM2 (aCm s) i=e at *
 obtain ⟨lv,ti,fr,bd,to⟩:=x
 simp only [Sec.v] at h1 o1 o2 o3 ⊢
 refine aAc h1 (by simp only [push_cast,seval,-Nat.reducePow]) (by simp only [push_cast,seval,-Nat.reducePow]) ?_
 simp only [push_cast,seval,-Nat.reducePow,view]
 omega
end Go.Ab
