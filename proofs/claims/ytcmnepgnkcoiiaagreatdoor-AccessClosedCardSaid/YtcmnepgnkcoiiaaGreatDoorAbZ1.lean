/- Several texts of one kind, merged. No condition. -/
import Derived.Test.YtcmnepgnkcoiiaaGreatDoorAbR8
import Derived.Lib.SlTrimSet
import Derived.Test.YtcmnepgnkcoiiaaGreatDoorAbR1
import Derived.KernelRfl
set_option linter.unusedSimpArgs false
set_option linter.unusedVariables false
namespace Go.Ab
def wsp:List UInt8:=[32,9]
def plainF (l:List Node):List Bool:=l.flatMap fun n=>List.replicate n.src.length (decide (n.kind=1))
theorem plainF_len:∀ l:List Node,(plainF l).length=(srcs l).length
 | []=>by simp [plainF,srcs]
 | n::r=>by
   have ih:=plainF_len r
   simp only [plainF] at ih
   simp [plainF,srcs,ih]
def headF (s:List UInt8):Option (Nat×List UInt8) :=
 if runL 61 (Go.Lib.trimRightS s wsp)=0∨runL 61 (Go.Lib.trimRightS s wsp).reverse=0∨runL 61 (Go.Lib.trimRightS s wsp)=(Go.Lib.trimRightS s wsp).length then none
 else
  if Go.Lib.trimS (((Go.Lib.trimRightS s wsp).take ((Go.Lib.trimRightS s wsp).length-min 6 (min (runL 61 (Go.Lib.trimRightS s wsp)) (runL 61 (Go.Lib.trimRightS s wsp).reverse)))).drop (min 6 (min (runL 61 (Go.Lib.trimRightS s wsp)) (runL 61 (Go.Lib.trimRightS s wsp).reverse)))) wsp=[] then none
  else some (min 6 (min (runL 61 (Go.Lib.trimRightS s wsp)) (runL 61 (Go.Lib.trimRightS s wsp).reverse)),Go.Lib.trimS (((Go.Lib.trimRightS s wsp).take ((Go.Lib.trimRightS s wsp).length-min 6 (min (runL 61 (Go.Lib.trimRightS s wsp)) (runL 61 (Go.Lib.trimRightS s wsp).reverse)))).drop (min 6 (min (runL 61 (Go.Lib.trimRightS s wsp)) (runL 61 (Go.Lib.trimRightS s wsp).reverse)))) wsp)
structure Sec where
 lev:Nat
 title:List UInt8
 fr:Nat
 bd:Nat
 to:Nat
def lineL:List UInt8→Nat
 | []=>0
 | x::r=>if x=10 then 0 else lineL r+1
theorem lineL_le:∀ s:List UInt8,lineL s≤s.length
 | []=>Nat.le_refl _
 | x::r=>by
   have:=lineL_le r
   simp only [lineL,List.length_cons]
   split <;> omega
def lineE (s:List UInt8) (i:Nat):Nat:=i+lineL (s.drop i)
theorem lineE_le {s:List UInt8} {i:Nat} (h:i≤s.length):i≤lineE s i∧lineE s i≤s.length:=by
 have:=lineL_le (s.drop i)
 rw [List.length_drop] at this
 unfold lineE
 omega
def secAt (s:List UInt8) (p:List Bool) (i:Nat):List Sec :=
 if ((p.take (lineE s i)).drop i).all id then
  match headF ((s.take (lineE s i)).drop i) with
  | some (k,t)=>[⟨k,t,i,min (lineE s i+1) s.length,s.length⟩]
  | none=>[]
 else []
def rawF (s:List UInt8) (p:List Bool):Nat→Nat→List Sec
 | 0,_=>[]
 | n+1,i=>if i<s.length then secAt s p i++rawF s p n (min (lineE s i+1) s.length) else []
def toOf (x:Sec) (r:List Sec):Sec:={ x with to:=match r.find? (fun y=>decide (y.lev≤x.lev)) with | some y=>y.fr | none=>x.to }
def toF:List Sec→List Sec
 | []=>[]
 | x::r=>toOf x r::toF r
def sectF (s:List UInt8):List Sec:=toF (rawF s (plainF (parseF s)) (s.length+1) 0)
def Sec.v (x:Sec):V:=.agg [.int .i64 x.lev,.str x.title,.int .i64 x.fr,.int .i64 x.bd,.int .i64 x.to]
def secV (l:List Sec):List V:=l.map Sec.v
theorem toF_len:∀ l:List Sec,(toF l).length=l.length
 | []=>rfl
 | x::r=>by simp [toF,toF_len r]
end Go.Ab
namespace Go.Ab
theorem lineL_end:∀ {s:List UInt8},lineL s<s.length→s[lineL s]?=some 10
 | [],h=>by simp at h
 | x::r,h=>by
   by_cases hx:x=10
   ·subst hx; simp [lineL]
   ·have e:lineL (x::r)=lineL r+1:=by simp [lineL,hx]
    rw [e] at h ⊢
    simp only [List.length_cons] at h
    rw [List.getElem?_cons_succ]
    exact lineL_end (by omega)
theorem lineL_no:∀ {s:List UInt8} {j:Nat},j<lineL s→∃ b,s[j]?=some b∧b≠10
 | [],j,h=>by simp [lineL] at h
 | x::r,j,h=>by
   by_cases hx:x=10
   ·subst hx; simp [lineL] at h
   ·have e:lineL (x::r)=lineL r+1:=by simp [lineL,hx]
    rw [e] at h
    cases j with
    | zero=>exact ⟨x,by simp,hx⟩
    | succ j =>
      rw [List.getElem?_cons_succ]
      exact lineL_no (by omega)
def LSt (s:List UInt8) (i:Nat):Prop:=i=0∨(0<i∧s[i-1]?=some 10)
theorem headF_nil:headF []=none:=by decide
structure RawOk (s:List UInt8) (i:Nat) (x:Sec):Prop where
 fr:i≤x.fr
 bd:x.fr<x.bd
 le:x.bd≤s.length
 to:x.to=s.length
 ls:LSt s x.fr
theorem secAt_ok {s:List UInt8} {p:List Bool} {i:Nat} (hi:i<s.length) (hl:LSt s i):∀ x,x∈secAt s p i→RawOk s i x∧x.fr=i∧x.bd=min (lineE s i+1) s.length:=by
 intro x hx
 have:=lineE_le (s:=s) (i:=i) (by omega)
 simp only [secAt] at hx
 split at hx
 ·split at hx
  ·rw [List.mem_singleton] at hx
   subst hx
   exact ⟨⟨Nat.le_refl _,by show i<min _ _; omega,by show min _ _≤_; omega,rfl,hl⟩,rfl,rfl⟩
  ·simp at hx
 ·simp at hx
theorem nx_ls {s:List UInt8} {i:Nat} (hi:i<s.length) (hn:min (lineE s i+1) s.length<s.length):LSt s (min (lineE s i+1) s.length):=by
 have h:=lineE_le (s:=s) (i:=i) (by omega)
 have e:min (lineE s i+1) s.length=lineE s i+1:=by omega
 rw [e] at hn ⊢
 refine .inr ⟨by omega,?_⟩
 have h2:lineL (s.drop i)<(s.drop i).length:=by
  rw [List.length_drop]; unfold lineE at h hn; omega
 have h3:=lineL_end h2
 rw [List.getElem?_drop] at h3
 simpa [lineE] using h3
theorem rawF_ok (s:List UInt8) (p:List Bool):∀ (n i:Nat),(i<s.length→LSt s i)→(∀ x,x∈rawF s p n i→RawOk s i x)∧(rawF s p n i).Pairwise (fun x y=>x.bd≤y.fr)
 | 0,i,_=>by simp [rawF]
 | n+1,i,hl=>by
   simp only [rawF]
   by_cases hi:i<s.length
   ·rw [if_pos hi]
    have h1:=secAt_ok (p:=p) hi (hl hi)
    have hle:=lineE_le (s:=s) (i:=i) (by omega)
    obtain ⟨h2,h3⟩:=rawF_ok s p n (min (lineE s i+1) s.length) (fun h=>nx_ls hi h)
    refine ⟨fun x hx=>?_,?_⟩
    ·rw [List.mem_append] at hx
     rcases hx with hx | hx
     ·exact (h1 x hx).1
     ·have:=h2 x hx
      exact ⟨by have:=this.fr; omega,this.bd,this.le,this.to,this.ls⟩
    ·rw [List.pairwise_append]
     refine ⟨?_,h3,fun a ha b hb=>?_⟩
     ·simp only [secAt]
      split
      ·split <;> simp
      ·simp
     ·have:=(h1 a ha).2.2
      have:=(h2 b hb).fr
      omega
   ·rw [if_neg hi]; simp
structure SecOk (s:List UInt8) (x:Sec):Prop where
 bd:x.fr<x.bd
 le:x.bd≤x.to
 to:x.to≤s.length
 ls:LSt s x.fr
 e:x.to=s.length∨LSt s x.to
theorem toOf_cases (x:Sec) (r:List Sec):((toOf x r).to=x.to∧∀ y,y∈r→x.lev<y.lev)∨∃ b z c,r=b++z::c∧(∀ y,y∈b→x.lev<y.lev)∧z.lev≤x.lev∧(toOf x r).to=z.fr:=by
 cases h:r.find? (fun y=>decide (y.lev≤x.lev)) with
 | none =>
   refine .inl ⟨by simp [toOf,h],fun y hy=>?_⟩
   have:=List.find?_eq_none.1 h y hy
   simpa using this
 | some z =>
   obtain ⟨hz,b,c,hr,hb⟩:=List.find?_eq_some_iff_append.1 h
   refine .inr ⟨b,z,c,hr,fun y hy=>?_,by simpa using hz,by simp [toOf,h]⟩
   have:=hb y hy
   simpa using this
theorem toF_mem:∀ {l:List Sec} {y:Sec},y∈toF l→∃ a y0 r,l=a++y0::r∧y=toOf y0 r
 | [],y,h=>by simp [toF] at h
 | x::l,y,h=>by
   simp only [toF,List.mem_cons] at h
   rcases h with rfl | h
   ·exact ⟨[],x,l,rfl,rfl⟩
   ·obtain ⟨a,y0,r,rfl,rfl⟩:=toF_mem h
    exact ⟨x::a,y0,r,rfl,rfl⟩
theorem toF_ok {s:List UInt8} {l:List Sec} {i:Nat} (h:∀ x,x∈l→RawOk s i x) (hp:l.Pairwise (fun x y=>x.bd≤y.fr)):∀ x,x∈toF l→SecOk s x:=by
 intro x hx
 obtain ⟨a,y,r,rfl,rfl⟩:=toF_mem hx
 have hy:=h y (by simp)
 rcases toOf_cases y r with ⟨h1,h2⟩ | ⟨b,z,c,rfl,h2,h3,h4⟩
 ·exact ⟨hy.bd,by rw [h1,hy.to]; exact hy.le,by rw [h1,hy.to]; exact Nat.le_refl _,hy.ls,.inl (by rw [h1,hy.to])⟩
 ·have hz:=h z (by simp)
  have hle:y.bd≤z.fr:=by
   rw [List.pairwise_append] at hp
   exact (List.pairwise_cons.1 hp.2.1).1 z (by simp)
  have:=hz.bd
  have:=hz.le
  exact ⟨hy.bd,by rw [h4]; exact hle,by rw [h4]; omega,hy.ls,.inr (by rw [h4]; exact hz.ls)⟩
theorem sect_raw (s:List UInt8):(∀ x,x∈rawF s (plainF (parseF s)) (s.length+1) 0→RawOk s 0 x)∧(rawF s (plainF (parseF s)) (s.length+1) 0).Pairwise (fun x y=>x.bd≤y.fr):=rawF_ok s _ _ 0 (fun _=>.inl rfl)
theorem sect_ok (s:List UInt8):∀ x,x∈sectF s→SecOk s x:=toF_ok (sect_raw s).1 (sect_raw s).2
theorem rawF_count (s:List UInt8) (p:List Bool):∀ (n i:Nat),(rawF s p n i).length≤s.length-i
 | 0,i=>by simp [rawF]
 | n+1,i=>by
   simp only [rawF]
   by_cases hi:i<s.length
   ·rw [if_pos hi]
    have:=lineE_le (s:=s) (i:=i) (by omega)
    have h2:=rawF_count s p n (min (lineE s i+1) s.length)
    have h1:(secAt s p i).length≤1:=by
     simp only [secAt]
     split
     ·split <;> simp
     ·simp
    rw [List.length_append]
    omega
   ·rw [if_neg hi]; simp
theorem sect_len (s:List UInt8):(sectF s).length≤s.length:=by
 have:=rawF_count s (plainF (parseF s)) (s.length+1) 0
 rw [sectF,toF_len]; omega
theorem rawF_none {s:List UInt8} {p:List Bool} (hp:p.length=s.length) (h:∀ (j:Nat),p[j]?=some true→s[j]?=some 10):∀ (n i:Nat),rawF s p n i=[]
 | 0,_=>rfl
 | n+1,i=>by
   simp only [rawF]
   by_cases hi:i<s.length
   ·rw [if_pos hi,rawF_none hp h n,List.append_nil,secAt]
    have hle:=lineE_le (s:=s) (i:=i) (by omega)
    by_cases he:lineE s i=i
    ·rw [he]
     have e:List.drop i (List.take i s)=[]:=by simp
     rw [e,headF_nil]
     split <;> rfl
    ·have hlt:0<lineL (s.drop i):=by unfold lineE at he; omega
     obtain ⟨b,hb,hb2⟩:=lineL_no hlt
     rw [List.getElem?_drop] at hb
     have hpi:p[i]?=some false:=by
      have h1:i<p.length:=by omega
      cases hc:p[i] with
      | true =>
        have h2:=h i (by rw [List.getElem?_eq_getElem h1,hc])
        rw [show i+0=i from rfl] at hb
        rw [h2] at hb
        cases hb
        exact absurd rfl hb2
      | false=>rw [List.getElem?_eq_getElem h1,hc]
     rw [if_neg]
     intro hall
     have hm:false∈(p.take (lineE s i)).drop i:=by
      refine List.mem_of_getElem? (i:=0) ?_
      rw [List.getElem?_drop,List.getElem?_take_of_lt (by omega)]
      exact hpi
     have:=List.all_eq_true.1 hall false hm
     simp at this
   ·rw [if_neg hi]
theorem sect_none {s:List UInt8} {n:Node} (hp:parseF s=[n]) (hk:n.kind≠1):sectF s=[]:=by
 have h:rawF s (plainF (parseF s)) (s.length+1) 0=[]:=by
  refine rawF_none (by rw [plainF_len,srcs_parseF]) (fun j hj=>?_) _ _
  exfalso
  rw [hp] at hj
  have:true∈plainF [n]:=List.mem_of_getElem? hj
  simp [plainF,hk] at this
 rw [sectF,h]; rfl
end Go.Ab
namespace Go.Ab
def c128 (F T:Nat→Nat):C :=
 .n [.mov (some 4) (.i 0),.mov (some 5) (.k (.bool false))] <|
 .n [.m 8 1,.c 9 (F 140) [.t 8,.s [32,9]],.m 1 9] <|
 .seq (.n [.m 10 0,.ll 11 10,.mov (some 12) (.i 0)] <|
 .block 0 <|
 .loop <|
 .n [.b 13 .lss 12 11] <|
 .seq (.cond (.t 13)
 (.skip)
 (.exit 0)) <|
 .seq (.block 1 <|
 .n [.m 14 12,.ia 15 5 10 12,.load (some 16) false 5 true (.t 15),.alloc 7 (T 14) [(.int .i64 0),(.str []),(.int .i64 0),(.int .i64 0),(.int .i64 0)],.m 6 14,.store 5 (.t 7) (.t 16)] <|
 .n [.f 17 1 7,.l 18 17,.m 19 1,.b 20 .eql 18 19] <|
 .cond (.t 20)
 (.n [.m 21 6,.m 4 21,.mov (some 5) (.k (.bool true))] <|
 .ret)
 (.skip)) <|
 .o [.bi 22 .add 12 1,.m 12 22]) <|
 .n [.mov (some 4) (.i 0),.mov (some 5) (.k (.bool false))] <|
 .ret
abbrev Is128 (P:Program) (F T:Nat→Nat):Prop:=Fn P (F 128) 23 [(4,none),(5,none)] (c128 F T)
def c131 (F T:Nat→Nat):C :=
 .n [.mov (some 2) (.s []),.mov (some 3) (.i 0)] <|
 .n [.m 7 0,.c 8 (F 124) [.t 7],.m 6 8,.x 9 0 6,.x 10 1 6,.m 4 9,.m 5 10] <|
 .seq (.n [.m 11 5,.bi 12 .neq 11 0] <|
 .cond (.t 12)
 (.n [.m 13 5,.mov (some 2) (.s []),.m 3 13] <|
 .ret)
 (.skip)) <|
 .seq (.n [.m 14 4,.ll 15 14,.bi 16 .eql 15 0] <|
 .cond (.t 16)
 (.n [.m 17 0,.m 2 17,.mov (some 3) (.i 0)] <|
 .ret)
 (.skip)) <|
 .n [.m 18 0,.m 19 4,.iadr (some 20) 5 (.t 19) (.i 0),.f 21 2 20,.l 22 21,.slcS (some 23) (.t 18) none (some (.t 22)),.m 2 23,.mov (some 3) (.i 0)] <|
 .ret
abbrev Is131 (P:Program) (F T:Nat→Nat):Prop:=Fn P (F 131) 24 [(2,none),(3,none)] (c131 F T)
def c132 (F T:Nat→Nat):C :=
 .n [.mov (some 4) (.s []),.mov (some 5) (.i 0)] <|
 .n [.m 9 0,.m 10 1,.c 11 (F 141) [.t 9,.t 10],.m 8 11,.x 12 0 8,.x 13 1 8,.alloc 6 (T 14) [(.int .i64 0),(.str []),(.int .i64 0),(.int .i64 0),(.int .i64 0)],.store 5 (.t 6) (.t 12),.m 7 13] <|
 .n [.m 14 0,.f 15 2 6,.l 16 15,.f 17 4 6,.l 18 17,.slcS (some 19) (.t 14) (some (.t 16)) (some (.t 18)),.m 20 7,.m 4 19,.m 5 20] <|
 .ret
abbrev Is132 (P:Program) (F T:Nat→Nat):Prop:=Fn P (F 132) 21 [(4,none),(5,none)] (c132 F T)
def c138 (F T:Nat→Nat):C :=
 .n [.mov (some 2) (.s [])] <|
 .seq (.block 0 <|
 .loop <|
 .seq (.seq (.ops false [⟨none,[.m 3 0,.ls 4 3,.bi 5 .gtr 4 0,.m 6 5]⟩,
 ⟨some (6,true),[.m 7 0,.m 8 0,.ls 9 8,.bi 10 .sub 9 1,.ix 11 7 10,.bin (some 12) .eql (.t 11) (.k (.int .u8 9)),.m 13 12]⟩,
 ⟨some (13,false),[.m 14 0,.m 15 0,.ls 16 15,.bi 17 .sub 16 1,.ix 18 14 17,.bin (some 19) .eql (.t 18) (.k (.int .u8 32))]⟩,
 ⟨some (6,true),[.pt 20 13 19]⟩,
 ⟨none,[.pf 21 6 20]⟩]) <|
 .cond (.t 21)
 (.skip)
 (.exit 0)) <|
 .block 1 <|
 .o [.m 22 0,.m 23 0,.ls 24 23,.bi 25 .sub 24 1,.slcS (some 26) (.t 22) none (some (.t 25)),.m 0 26]) <|
 .n [.m 27 0,.m 2 27] <|
 .ret
abbrev Is138 (P:Program) (F T:Nat→Nat):Prop:=Fn P (F 138) 28 [(2,none)] (c138 F T)
def c139 (F T:Nat→Nat):C :=
 .n [.mov (some 4) (.k (.bool false))] <|
 .seq (.n [.m 6 0,.ll 7 6,.m 8 1,.ll 9 8,.b 10 .neq 7 9] <|
 .cond (.t 10)
 (.n [.mov (some 4) (.k (.bool false))] <|
 .ret)
 (.skip)) <|
 .seq (.n [.mov (some 5) (.i 0)] <|
 .block 0 <|
 .loop <|
 .seq (.n [.m 11 5,.m 12 0,.ll 13 12,.b 14 .lss 11 13] <|
 .cond (.t 14)
 (.skip)
 (.exit 0)) <|
 .seq (.block 1 <|
 .seq (.p [.m 17 0,.m 18 5,.ia 19 5 17 18,.load (some 20) false 5 true (.t 19),.m 21 1,.m 22 5,.ia 23 5 21 22,.load (some 24) false 5 true (.t 23),.eqA (some 25) true [0,1,0,0,0] (.t 20) (.t 24)]) <|
 .cond (.t 25)
 (.n [.mov (some 4) (.k (.bool false))] <|
 .ret)
 (.skip)) <|
 .o [.m 15 5,.bi 16 .add 15 1,.m 5 16]) <|
 .n [.mov (some 4) (.k (.bool true))] <|
 .ret
abbrev Is139 (P:Program) (F T:Nat→Nat):Prop:=Fn P (F 139) 26 [(4,none)] (c139 F T)
def c141 (F T:Nat→Nat):C :=
 .n [.alloc 4 (T 14) [(.int .i64 0),(.str []),(.int .i64 0),(.int .i64 0),(.int .i64 0)],.mov (some 5) (.i 0)] <|
 .n [.m 9 0,.c 10 (F 124) [.t 9],.m 8 10,.x 11 0 8,.x 12 1 8,.m 6 11,.m 7 12] <|
 .seq (.n [.m 13 7,.bi 14 .neq 13 0] <|
 .cond (.t 14)
 (.n [.build (some 15) [(.int .i64 0),(.str []),(.int .i64 0),(.int .i64 0),(.int .i64 0)] [],.m 16 7,.store 5 (.t 4) (.t 15),.m 5 16] <|
 .ret)
 (.skip)) <|
 .seq (.seq (.ops false [⟨none,[.m 17 1,.bi 18 .lss 17 0,.m 19 18]⟩,
 ⟨some (19,false),[.m 20 1,.m 21 6,.ll 22 21,.b 23 .geq 20 22]⟩,
 ⟨none,[.pt 24 19 23]⟩]) <|
 .cond (.t 24)
 (.n [.build (some 25) [(.int .i64 0),(.str []),(.int .i64 0),(.int .i64 0),(.int .i64 0)] [],.store 5 (.t 4) (.t 25),.mov (some 5) (.i 2)] <|
 .ret)
 (.skip)) <|
 .n [.m 26 6,.m 27 1,.ia 28 5 26 27,.load (some 29) false 5 true (.t 28),.store 5 (.t 4) (.t 29),.mov (some 5) (.i 0)] <|
 .ret
abbrev Is141 (P:Program) (F T:Nat→Nat):Prop:=Fn P (F 141) 30 [(4,(some (5,true))),(5,none)] (c141 F T)
end Go.Ab
namespace Go.Ab
variable {P:Program} {F T:Nat→Nat}
open Go.Lib
structure StrC0 (P:Program) (F:Nat→Nat):Prop where
 trim:∀ s:List UInt8,s.length≤9223372036854775807→PTr P (F 140) [.str s,.str [32,9]] (.str (trimS s wsp))
 right:∀ s cs:List UInt8,s.length≤100000→cs.length≤2→(∀ b,b∈cs→b.toNat<128)→PTr P (F 143) [.str s,.str cs] (.str (trimRightS s cs))
 left:∀ s cs:List UInt8,s.length≤100000→cs.length≤2→(∀ b,b∈cs→b.toNat<128)→PTr P (F 144) [.str s,.str cs] (.str (trimLeftS s cs))
 ib:∀ (s:List UInt8),PTr P (F 120) [.str s,.int .u8 10] (.int .i64 (indexByte s 10))
theorem ptr_slen {f:Nat} {args:List V} {r:V} (i:Nat) (s:List UInt8) (hi:args[i]?=some (.str s)) (h:s.length≤9223372036854775807→PTr P f args r):PTr P f args r:=by
 intro D w vs hD hg hl hr
 have hb:s.length≤9223372036854775807:=by
  have hx:=hr i _ hi
  generalize vs.getD i undef=v at hx
  cases hx with
  | str _ hh=>omega
 exact h hb D w vs hD hg hl hr
theorem wsp_mem (x:UInt8):wsp.contains x=true↔(x.toNat=9∨x.toNat=32):=by
 have h:∀ n:Nat,n<256→(x.toNat=n↔x=UInt8.ofNat n):=fun n hn=>⟨fun e=>by rw [← e]; simp,fun e=>by rw [e]; simp; omega⟩
 rw [h 9 (by omega),h 32 (by omega)]
 simp only [wsp,List.contains_cons,List.contains_nil,Bool.or_false,Bool.or_eq_true,beq_iff_eq]
 exact or_comm
theorem right_step {s:List UInt8} (h:0<s.length):trimRightS s wsp=if (s.getD (s.length-1) 0).toNat=9∨(s.getD (s.length-1) 0).toNat=32 then trimRightS (s.take (s.length-1)) wsp else s:=by
 obtain ⟨u,x,rfl⟩:∃ u x,s=u++[x]:=by
  rcases List.eq_nil_or_concat s with rfl | ⟨u,x,rfl⟩
  ·simp at h
  ·exact ⟨u,x,by simp⟩
 have e1:(u++[x]).getD ((u++[x]).length-1) 0=x:=by simp
 have e2:(u++[x]).take ((u++[x]).length-1)=u:=by simp
 rw [e1,e2]
 by_cases hx:wsp.contains x=true
 ·rw [if_pos ((wsp_mem x).1 hx)]
  simp only [trimRightS,List.reverse_append,List.reverse_cons,List.reverse_nil,List.nil_append,List.cons_append,List.dropWhile,hx]
 ·rw [if_neg (fun q=>hx ((wsp_mem x).2 q))]
  have hx':wsp.contains x=false:=by simpa using hx
  simp only [trimRightS,List.reverse_append,List.reverse_cons,List.reverse_nil,List.nil_append,List.cons_append,List.dropWhile,hx',List.reverse_reverse]
theorem t138 (hf:Is138 P F T) (s:List UInt8) (hs:s.length≤9223372036854775807):PTr P (F 138) [.str s] (.str (trimRightS s wsp)):=by
 refine ptrC [] hf (by simp) rfl ?_
 simp only [c138,push_cast,seval,-Nat.reducePow]
 refine loopK_intro (fun m s1=>∃ t,m=t.length∧t.length≤9223372036854775807∧trimRightS t wsp=trimRightS s wsp∧s1.env 0=.str t) s.length ⟨s,?_⟩ fun m s1 hJ=>?_
 ·simp only [push_cast,seval,-Nat.reducePow]
  exact hs
 ·obtain ⟨t,rfl,hl,ht,j0⟩:=hJ
  by_cases h0:0<t.length
  ·have h0':(0:Int)<(t.length:Nat):=by omega
   have hst:=right_step h0
   have e1:(((t.length:Nat):Int)-1).toNat=t.length-1:=by omega
   have e2:(t.take (t.length-1)).length=t.length-1:=by rw [List.length_take]; omega
   obtain ⟨x,hx⟩:∃ x,t.getD (t.length-1) 0=x:=⟨_,rfl⟩
   rw [hx] at hst
   by_cases h9:x.toNat=9
   ·have h9':((x.toNat:Nat):Int)=9:=by omega
    rw [if_pos (.inl h9)] at hst
    simp only [push_cast,seval,-Nat.reducePow,j0,h0',e1,hx,h9']
    repeat refine And.intro (by omega) ?_
    exact ⟨t.length-1,by omega,t.take (t.length-1),e2.symm,by omega,by rw [← hst]; exact ht,rfl⟩
   ·have h9':¬ ((x.toNat:Nat):Int)=9:=by omega
    by_cases h32:x.toNat=32
    ·have h32':((x.toNat:Nat):Int)=32:=by omega
     rw [if_pos (.inr h32)] at hst
     simp only [push_cast,seval,-Nat.reducePow,j0,h0',e1,hx,h9',h32']
     repeat refine And.intro (by omega) ?_
     exact ⟨t.length-1,by omega,t.take (t.length-1),e2.symm,by omega,by rw [← hst]; exact ht,rfl⟩
    ·have h32':¬ ((x.toNat:Nat):Int)=32:=by omega
     rw [if_neg (by omega)] at hst
     simp only [push_cast,seval,-Nat.reducePow,j0,h0',e1,hx,h9',h32']
     repeat refine And.intro (by omega) ?_
     rw [← ht,hst]; rfl
  ·have h0':¬ (0:Int)<(t.length:Nat):=by omega
   have:t=[]:=List.eq_nil_of_length_eq_zero (by omega)
   subst this
   simp only [push_cast,seval,-Nat.reducePow,j0]
   rw [← ht]; rfl
end Go.Ab
namespace Go.Ab
variable {P:Program} {F T:Nat→Nat}
open Go.Lib
def hdT (s:List UInt8):List UInt8:=trimRightS s wsp
def hdBad (s:List UInt8):Prop:=runL 61 (hdT s)=0∨runL 61 (hdT s).reverse=0∨runL 61 (hdT s)=(hdT s).length
instance (s:List UInt8):Decidable (hdBad s):=by unfold hdBad; infer_instance
end Go.Ab
namespace Go.Ab
variable {P:Program} {F T:Nat→Nat}
theorem view_own1 {L:Heap} {i ty z sz n:Nat} {es:List V} (h:L i=some (.vec ty z es)) (hi:V.imms es=true) (hn:n=es.length):view L 3 (.own i sz 0 n)=.lst sz es:=by
 subst hn
 simp only [view,h,Nat.zero_add,Nat.le_refl,if_true,List.drop_zero,List.take_length]
 rw [show es.map (view L 2)=es.map id from List.map_congr_left fun x hx=>view_imm 2 x (imms_mem hi hx),List.map_id]
end Go.Ab
namespace Go.Ab
variable {P:Program} {F T:Nat→Nat}
open Go.Lib
theorem secV_len (l:List Sec):(secV l).length=l.length:=by simp [secV]
theorem secV_imm:∀ l:List Sec,V.imms (secV l)=true
 | []=>rfl
 | x::r=>by simp [secV,V.imms,V.imm,Sec.v]; exact secV_imm r
end Go.Ab
namespace Go.Ab
variable {P:Program} {F T:Nat→Nat}
open Go.Lib
def SectC (P:Program) (f:Nat):Prop:=∀ s:List UInt8,s.length≤8192→PTr P f [.str s] (.tup [.lst 5 (secV (sectF s)),.int .i64 0])
theorem t139 (hf:Is139 P F T) (l:List Sec) (hl:l.length≤100000):PTr P (F 139) [.lst 5 (secV l),.lst 5 (secV l)] (.bool true):=by
 refine ptrC [] hf (by simp [secV_imm]) rfl ?_
 have hlen:=secV_len l
 simp only [c139,push_cast,seval,-Nat.reducePow]
 refine loopK_intro (fun m s1=>∃ i,i≤l.length∧m=l.length-i∧s1.env 0=.lst 5 (secV l)∧s1.env 1=.lst 5 (secV l)∧s1.env 5=.int .i64 i) l.length ⟨0,?_⟩ fun m s1 hJ=>?_
 ·simp only [push_cast,seval,-Nat.reducePow]
  omega
 ·obtain ⟨i,hi,rfl,j0,j1,j5⟩:=hJ
  by_cases h:i<l.length
  ·have h':((i:Nat):Int)<((secV l).length:Nat):=by omega
   have hx:(secV l).getD i .junk=(l[i]).v:=by simp [secV,List.getD,h]
   obtain ⟨lv,ti,fr,bd,to⟩:=l[i]
   simp only [Sec.v] at hx
   simp only [push_cast,seval,-Nat.reducePow,j0,j1,j5,h',hx]
   refine ⟨by omega,by omega,by omega,l.length-(i+1),by omega,i+1,by omega,rfl,by simp⟩
  ·have h':¬ ((i:Nat):Int)<((secV l).length:Nat):=by omega
   simp only [push_cast,seval,-Nat.reducePow,j0,j1,j5,h',view]
def leadF (s:List UInt8):List UInt8:=match sectF s with | []=>s | x::_=>s.take x.fr
theorem t131 (hf:Is131 P F T) (h124:SectC P (F 124)) (s:List UInt8) (hs:s.length≤8192):PTr P (F 131) [.str s] (.tup [.str (leadF s),.int .i64 0]):=by
 have h1:=h124 s hs
 have hok:=sect_ok s
 refine ptrC [] hf (by simp) rfl ?_
 simp only [c131,push_cast,seval,-Nat.reducePow]
 refine callK_intro h1 (by simp only [push_cast,seval,-Nat.reducePow]) (by simp only [push_cast,seval,-Nat.reducePow,secV_imm]) ?_
 unfold leadF
 cases hl:sectF s with
 | nil =>
   simp only [push_cast,seval,-Nat.reducePow,secV,List.map_nil,view]
 | cons x r =>
   have:=hok x (by rw [hl]; simp)
   have h2:=this.bd
   have h3:=this.le
   have h4:=this.to
   have h5:¬ (((r.length:Nat):Int)+1=0):=by omega
   have h6:List.drop 0 (List.take x.fr s)=List.take x.fr s:=rfl
   simp only [push_cast,seval,-Nat.reducePow,secV,List.map_cons,view,Sec.v,List.getD_cons_zero,List.length_cons,List.length_map,h5]
   omega
def zsec:Sec:=⟨0,[],0,0,0⟩
def partS (l:List Sec) (i:Int):Sec:=if 0≤i∧i<l.length then l.getD i.toNat zsec else zsec
def partE (l:List Sec) (i:Int):Int:=if 0≤i∧i<l.length then 0 else 2
theorem t141 (hf:Is141 P F T) (h124:SectC P (F 124)) (s:List UInt8) (hs:s.length≤8192) (i:Int):PTr P (F 141) [.str s,.int .i64 i] (.tup [(partS (sectF s) i).v,.int .i64 (partE (sectF s) i)]):=by
 have h1:=h124 s hs
 refine ptrC [] hf (by simp) (by simp [V.imm,V.imms,Sec.v]) ?_
 simp only [c141,push_cast,seval,-Nat.reducePow]
 refine callK_intro h1 (by simp only [push_cast,seval,-Nat.reducePow]) (by simp only [push_cast,seval,-Nat.reducePow,secV_imm]) ?_
 generalize sectF s=l
 have hlen:=secV_len l
 by_cases h0:i<0
 ·have hp:partS l i=zsec:=by unfold partS; rw [if_neg (by omega)]
  have he:partE l i=2:=by unfold partE; rw [if_neg (by omega)]
  simp only [push_cast,seval,-Nat.reducePow,h0,hp,he,zsec,Sec.v,view]
 ·by_cases h2:(l.length:Int)≤i
  ·have hp:partS l i=zsec:=by unfold partS; rw [if_neg (by omega)]
   have he:partE l i=2:=by unfold partE; rw [if_neg (by omega)]
   have h2':(((secV l).length:Nat):Int)≤i:=by omega
   simp only [push_cast,seval,-Nat.reducePow,h0,h2',hp,he,zsec,Sec.v,view]
  ·have h2':¬ (((secV l).length:Nat):Int)≤i:=by omega
   have hp:partS l i=l.getD i.toNat zsec:=by unfold partS; rw [if_pos (by omega)]
   have he:partE l i=0:=by unfold partE; rw [if_pos (by omega)]
   obtain ⟨k,rfl⟩:∃ k:Nat,i=k:=⟨i.toNat,by omega⟩
   have hk:k<l.length:=by omega
   have hx:(secV l).getD k .junk=(l.getD k zsec).v:=by simp [secV,List.getD,hk]
   simp only [Int.toNat_natCast] at hp
   rw [hp,he]
   generalize l.getD k zsec=x at *
   obtain ⟨lv,ti,fr,bd,to⟩:=x
   simp only [Sec.v] at hx ⊢
   simp only [push_cast,seval,-Nat.reducePow,h0,h2',hx,view]
   omega
theorem partS_ok (s:List UInt8) (i:Int):(partS (sectF s) i).fr≤(partS (sectF s) i).bd∧(partS (sectF s) i).bd≤(partS (sectF s) i).to∧(partS (sectF s) i).to≤s.length:=by
 unfold partS
 split
 ·rename_i h
  have hk:i.toNat<(sectF s).length:=by omega
  have hm:(sectF s).getD i.toNat zsec∈sectF s:=by simp [List.getD,hk]
  have:=sect_ok s _ hm
  exact ⟨Nat.le_of_lt this.bd,this.le,this.to⟩
 ·exact ⟨Nat.le_refl _,Nat.le_refl _,Nat.zero_le _⟩
def textF (s:List UInt8) (i:Int):List UInt8:=(s.take (partS (sectF s) i).to).drop (partS (sectF s) i).fr
theorem t132 (hf:Is132 P F T) (h141:Is141 P F T) (h124:SectC P (F 124)) (s:List UInt8) (hs:s.length≤8192) (i:Int):PTr P (F 132) [.str s,.int .i64 i] (.tup [.str (textF s i),.int .i64 (partE (sectF s) i)]):=by
 have h1:=t141 h141 h124 s hs i
 obtain ⟨o1,o2,o3⟩:=partS_ok s i
 refine ptrC [] hf (by simp) rfl ?_
 simp only [c132,push_cast,seval,-Nat.reducePow]
 unfold textF
 generalize partS (sectF s) i=x at *
 generalize partE (sectF s) i=e at *
 obtain ⟨lv,ti,fr,bd,to⟩:=x
 simp only [Sec.v] at h1 o1 o2 o3 ⊢
 refine callK_intro h1 (by simp only [push_cast,seval,-Nat.reducePow]) (by simp only [push_cast,seval,-Nat.reducePow]) ?_
 simp only [push_cast,seval,-Nat.reducePow,view]
 omega
end Go.Ab
