/- Several texts of one kind, merged. No condition. -/
import Derived.Test.YtcmnepgnkcoiiaaGreatDoorAbR8
import Derived.Lib.SlTrimSet
import Derived.Test.YtcmnepgnkcoiiaaGreatDoorAbR1
import Derived.KernelRfl
set_option linter.unusedSimpArgs false
set_option linter.unusedVariables false
namespace Go.Ab
def wsp:List UInt8:=[32,9]
def plainF (l:List Node):List Bool:=l.flatMap fun n=>List.replicate n.src.length (decide (n.kind=1))
theorem plainF_len:∀ l:List Node,(plainF l).length=(srcs l).length
 | []=>by simp [plainF,srcs]
 | n::r=>by
   have ih:=plainF_len r
   simp only [plainF] at ih
   simp [plainF,srcs,ih]
theorem plainF_app (a b:List Node):plainF (a++b)=plainF a++plainF b:=by simp [plainF]
def headF (s:List UInt8):Option (Nat×List UInt8) :=
 if runL 61 (Go.Lib.trimRightS s wsp)=0∨runL 61 (Go.Lib.trimRightS s wsp).reverse=0∨runL 61 (Go.Lib.trimRightS s wsp)=(Go.Lib.trimRightS s wsp).length then none
 else
  if Go.Lib.trimS (((Go.Lib.trimRightS s wsp).take ((Go.Lib.trimRightS s wsp).length-min 6 (min (runL 61 (Go.Lib.trimRightS s wsp)) (runL 61 (Go.Lib.trimRightS s wsp).reverse)))).drop (min 6 (min (runL 61 (Go.Lib.trimRightS s wsp)) (runL 61 (Go.Lib.trimRightS s wsp).reverse)))) wsp=[] then none
  else some (min 6 (min (runL 61 (Go.Lib.trimRightS s wsp)) (runL 61 (Go.Lib.trimRightS s wsp).reverse)),Go.Lib.trimS (((Go.Lib.trimRightS s wsp).take ((Go.Lib.trimRightS s wsp).length-min 6 (min (runL 61 (Go.Lib.trimRightS s wsp)) (runL 61 (Go.Lib.trimRightS s wsp).reverse)))).drop (min 6 (min (runL 61 (Go.Lib.trimRightS s wsp)) (runL 61 (Go.Lib.trimRightS s wsp).reverse)))) wsp)
structure Sec where
 lev:Nat
 title:List UInt8
 fr:Nat
 bd:Nat
 to:Nat
def lineL:List UInt8→Nat
 | []=>0
 | x::r=>if x=10 then 0 else lineL r+1
theorem lineL_le:∀ s:List UInt8,lineL s≤s.length
 | []=>Nat.le_refl _
 | x::r=>by
   have:=lineL_le r
   simp only [lineL,List.length_cons]
   split <;> omega
def lineE (s:List UInt8) (i:Nat):Nat:=i+lineL (s.drop i)
theorem lineE_le {s:List UInt8} {i:Nat} (h:i≤s.length):i≤lineE s i∧lineE s i≤s.length:=by
 have:=lineL_le (s.drop i)
 rw [List.length_drop] at this
 unfold lineE
 omega
def secAt (s:List UInt8) (p:List Bool) (i:Nat):List Sec :=
 if ((p.take (lineE s i)).drop i).all id then
  match headF ((s.take (lineE s i)).drop i) with
  | some (k,t)=>[⟨k,t,i,min (lineE s i+1) s.length,s.length⟩]
  | none=>[]
 else []
def rawF (s:List UInt8) (p:List Bool):Nat→Nat→List Sec
 | 0,_=>[]
 | n+1,i=>if i<s.length then secAt s p i++rawF s p n (min (lineE s i+1) s.length) else []
def toOf (x:Sec) (r:List Sec):Sec:={ x with to:=match r.find? (fun y=>decide (y.lev≤x.lev)) with | some y=>y.fr | none=>x.to }
def toF:List Sec→List Sec
 | []=>[]
 | x::r=>toOf x r::toF r
def sectF (s:List UInt8):List Sec:=toF (rawF s (plainF (parseF s)) (s.length+1) 0)
def Sec.v (x:Sec):V:=.agg [.int .i64 x.lev,.str x.title,.int .i64 x.fr,.int .i64 x.bd,.int .i64 x.to]
def secV (l:List Sec):List V:=l.map Sec.v
theorem toF_len:∀ l:List Sec,(toF l).length=l.length
 | []=>rfl
 | x::r=>by simp [toF,toF_len r]
theorem rawF_fuel (s:List UInt8) (p:List Bool):∀ (n m i:Nat),s.length<n+i→s.length<m+i→rawF s p n i=rawF s p m i
 | 0,0,_,_,_=>rfl
 | 0,m+1,i,h,_=>by
   simp only [rawF]
   rw [if_neg (by omega)]
 | n+1,0,i,_,h=>by
   simp only [rawF]
   rw [if_neg (by omega)]
 | n+1,m+1,i,h1,h2=>by
   simp only [rawF]
   by_cases hi:i<s.length
   ·rw [if_pos hi,if_pos hi]
    have:=lineE_le (s:=s) (i:=i) (by omega)
    rw [rawF_fuel s p n m (min (lineE s i+1) s.length) (by omega) (by omega)]
   ·rw [if_neg hi,if_neg hi]
end Go.Ab
namespace Go.Ab
theorem lineL_end:∀ {s:List UInt8},lineL s<s.length→s[lineL s]?=some 10
 | [],h=>by simp at h
 | x::r,h=>by
   by_cases hx:x=10
   ·subst hx; simp [lineL]
   ·have e:lineL (x::r)=lineL r+1:=by simp [lineL,hx]
    rw [e] at h ⊢
    simp only [List.length_cons] at h
    rw [List.getElem?_cons_succ]
    exact lineL_end (by omega)
theorem lineL_no:∀ {s:List UInt8} {j:Nat},j<lineL s→∃ b,s[j]?=some b∧b≠10
 | [],j,h=>by simp [lineL] at h
 | x::r,j,h=>by
   by_cases hx:x=10
   ·subst hx; simp [lineL] at h
   ·have e:lineL (x::r)=lineL r+1:=by simp [lineL,hx]
    rw [e] at h
    cases j with
    | zero=>exact ⟨x,by simp,hx⟩
    | succ j =>
      rw [List.getElem?_cons_succ]
      exact lineL_no (by omega)
def LSt (s:List UInt8) (i:Nat):Prop:=i=0∨(0<i∧s[i-1]?=some 10)
theorem headF_nil:headF []=none:=by decide
structure RawOk (s:List UInt8) (i:Nat) (x:Sec):Prop where
 fr:i≤x.fr
 bd:x.fr<x.bd
 le:x.bd≤s.length
 to:x.to=s.length
 ls:LSt s x.fr
theorem secAt_ok {s:List UInt8} {p:List Bool} {i:Nat} (hi:i<s.length) (hl:LSt s i):∀ x,x∈secAt s p i→RawOk s i x∧x.fr=i∧x.bd=min (lineE s i+1) s.length:=by
 intro x hx
 have:=lineE_le (s:=s) (i:=i) (by omega)
 simp only [secAt] at hx
 split at hx
 ·split at hx
  ·rw [List.mem_singleton] at hx
   subst hx
   exact ⟨⟨Nat.le_refl _,by show i<min _ _; omega,by show min _ _≤_; omega,rfl,hl⟩,rfl,rfl⟩
  ·simp at hx
 ·simp at hx
theorem nx_ls {s:List UInt8} {i:Nat} (hi:i<s.length) (hn:min (lineE s i+1) s.length<s.length):LSt s (min (lineE s i+1) s.length):=by
 have h:=lineE_le (s:=s) (i:=i) (by omega)
 have e:min (lineE s i+1) s.length=lineE s i+1:=by omega
 rw [e] at hn ⊢
 refine .inr ⟨by omega,?_⟩
 have h2:lineL (s.drop i)<(s.drop i).length:=by
  rw [List.length_drop]; unfold lineE at h hn; omega
 have h3:=lineL_end h2
 rw [List.getElem?_drop] at h3
 simpa [lineE] using h3
theorem rawF_ok (s:List UInt8) (p:List Bool):∀ (n i:Nat),(i<s.length→LSt s i)→(∀ x,x∈rawF s p n i→RawOk s i x)∧(rawF s p n i).Pairwise (fun x y=>x.bd≤y.fr)
 | 0,i,_=>by simp [rawF]
 | n+1,i,hl=>by
   simp only [rawF]
   by_cases hi:i<s.length
   ·rw [if_pos hi]
    have h1:=secAt_ok (p:=p) hi (hl hi)
    have hle:=lineE_le (s:=s) (i:=i) (by omega)
    obtain ⟨h2,h3⟩:=rawF_ok s p n (min (lineE s i+1) s.length) (fun h=>nx_ls hi h)
    refine ⟨fun x hx=>?_,?_⟩
    ·rw [List.mem_append] at hx
     rcases hx with hx | hx
     ·exact (h1 x hx).1
     ·have:=h2 x hx
      exact ⟨by have:=this.fr; omega,this.bd,this.le,this.to,this.ls⟩
    ·rw [List.pairwise_append]
     refine ⟨?_,h3,fun a ha b hb=>?_⟩
     ·simp only [secAt]
      split
      ·split <;> simp
      ·simp
     ·have:=(h1 a ha).2.2
      have:=(h2 b hb).fr
      omega
   ·rw [if_neg hi]; simp
structure SecOk (s:List UInt8) (x:Sec):Prop where
 bd:x.fr<x.bd
 le:x.bd≤x.to
 to:x.to≤s.length
 ls:LSt s x.fr
 e:x.to=s.length∨LSt s x.to
theorem toOf_cases (x:Sec) (r:List Sec):((toOf x r).to=x.to∧∀ y,y∈r→x.lev<y.lev)∨∃ b z c,r=b++z::c∧(∀ y,y∈b→x.lev<y.lev)∧z.lev≤x.lev∧(toOf x r).to=z.fr:=by
 cases h:r.find? (fun y=>decide (y.lev≤x.lev)) with
 | none =>
   refine .inl ⟨by simp [toOf,h],fun y hy=>?_⟩
   have:=List.find?_eq_none.1 h y hy
   simpa using this
 | some z =>
   obtain ⟨hz,b,c,hr,hb⟩:=List.find?_eq_some_iff_append.1 h
   refine .inr ⟨b,z,c,hr,fun y hy=>?_,by simpa using hz,by simp [toOf,h]⟩
   have:=hb y hy
   simpa using this
theorem toF_mem:∀ {l:List Sec} {y:Sec},y∈toF l→∃ a y0 r,l=a++y0::r∧y=toOf y0 r
 | [],y,h=>by simp [toF] at h
 | x::l,y,h=>by
   simp only [toF,List.mem_cons] at h
   rcases h with rfl | h
   ·exact ⟨[],x,l,rfl,rfl⟩
   ·obtain ⟨a,y0,r,rfl,rfl⟩:=toF_mem h
    exact ⟨x::a,y0,r,rfl,rfl⟩
theorem toF_ok {s:List UInt8} {l:List Sec} {i:Nat} (h:∀ x,x∈l→RawOk s i x) (hp:l.Pairwise (fun x y=>x.bd≤y.fr)):∀ x,x∈toF l→SecOk s x:=by
 intro x hx
 obtain ⟨a,y,r,rfl,rfl⟩:=toF_mem hx
 have hy:=h y (by simp)
 rcases toOf_cases y r with ⟨h1,h2⟩ | ⟨b,z,c,rfl,h2,h3,h4⟩
 ·exact ⟨hy.bd,by rw [h1,hy.to]; exact hy.le,by rw [h1,hy.to]; exact Nat.le_refl _,hy.ls,.inl (by rw [h1,hy.to])⟩
 ·have hz:=h z (by simp)
  have hle:y.bd≤z.fr:=by
   rw [List.pairwise_append] at hp
   exact (List.pairwise_cons.1 hp.2.1).1 z (by simp)
  have:=hz.bd
  have:=hz.le
  exact ⟨hy.bd,by rw [h4]; exact hle,by rw [h4]; omega,hy.ls,.inr (by rw [h4]; exact hz.ls)⟩
theorem sect_raw (s:List UInt8):(∀ x,x∈rawF s (plainF (parseF s)) (s.length+1) 0→RawOk s 0 x)∧(rawF s (plainF (parseF s)) (s.length+1) 0).Pairwise (fun x y=>x.bd≤y.fr):=rawF_ok s _ _ 0 (fun _=>.inl rfl)
theorem sect_ok (s:List UInt8):∀ x,x∈sectF s→SecOk s x:=toF_ok (sect_raw s).1 (sect_raw s).2
theorem rawF_count (s:List UInt8) (p:List Bool):∀ (n i:Nat),(rawF s p n i).length≤s.length-i
 | 0,i=>by simp [rawF]
 | n+1,i=>by
   simp only [rawF]
   by_cases hi:i<s.length
   ·rw [if_pos hi]
    have:=lineE_le (s:=s) (i:=i) (by omega)
    have h2:=rawF_count s p n (min (lineE s i+1) s.length)
    have h1:(secAt s p i).length≤1:=by
     simp only [secAt]
     split
     ·split <;> simp
     ·simp
    rw [List.length_append]
    omega
   ·rw [if_neg hi]; simp
theorem sect_len (s:List UInt8):(sectF s).length≤s.length:=by
 have:=rawF_count s (plainF (parseF s)) (s.length+1) 0
 rw [sectF,toF_len]; omega
theorem rawF_none {s:List UInt8} {p:List Bool} (hp:p.length=s.length) (h:∀ (j:Nat),p[j]?=some true→s[j]?=some 10):∀ (n i:Nat),rawF s p n i=[]
 | 0,_=>rfl
 | n+1,i=>by
   simp only [rawF]
   by_cases hi:i<s.length
   ·rw [if_pos hi,rawF_none hp h n,List.append_nil,secAt]
    have hle:=lineE_le (s:=s) (i:=i) (by omega)
    by_cases he:lineE s i=i
    ·rw [he]
     have e:List.drop i (List.take i s)=[]:=by simp
     rw [e,headF_nil]
     split <;> rfl
    ·have hlt:0<lineL (s.drop i):=by unfold lineE at he; omega
     obtain ⟨b,hb,hb2⟩:=lineL_no hlt
     rw [List.getElem?_drop] at hb
     have hpi:p[i]?=some false:=by
      have h1:i<p.length:=by omega
      cases hc:p[i] with
      | true =>
        have h2:=h i (by rw [List.getElem?_eq_getElem h1,hc])
        rw [show i+0=i from rfl] at hb
        rw [h2] at hb
        cases hb
        exact absurd rfl hb2
      | false=>rw [List.getElem?_eq_getElem h1,hc]
     rw [if_neg]
     intro hall
     have hm:false∈(p.take (lineE s i)).drop i:=by
      refine List.mem_of_getElem? (i:=0) ?_
      rw [List.getElem?_drop,List.getElem?_take_of_lt (by omega)]
      exact hpi
     have:=List.all_eq_true.1 hall false hm
     simp at this
   ·rw [if_neg hi]
theorem sect_none {s:List UInt8} {n:Node} (hp:parseF s=[n]) (hk:n.kind≠1):sectF s=[]:=by
 have h:rawF s (plainF (parseF s)) (s.length+1) 0=[]:=by
  refine rawF_none (by rw [plainF_len,srcs_parseF]) (fun j hj=>?_) _ _
  exfalso
  rw [hp] at hj
  have:true∈plainF [n]:=List.mem_of_getElem? hj
  simp [plainF,hk] at this
 rw [sectF,h]; rfl
end Go.Ab
namespace Go.Ab
def c124 (F T:Nat→Nat):C :=
 .seq (.ops false [⟨none,[.mov (some 2) (.k .nils),.mov (some 3) (.k (.int .i64 0))]⟩]) <|
 .seq (.ops false [⟨none,[.mov (some 19) (.t 0),.call (some 20) true (F 136) [(.t 19)],.mov (some 18) (.t 20),.ext (some 21) 0 (.t 18),.ext (some 22) 1 (.t 18),.mov (some 4) (.t 21),.mov (some 5) (.t 22)]⟩]) <|
 .seq (.seq (.ops false [⟨none,[.mov (some 23) (.t 5),.bin (some 24) .neq (.t 23) (.k (.int .i64 0))]⟩]) <|
 .cond (.t 24)
 (.seq (.ops false [⟨none,[.mov (some 25) (.t 5),.mov (some 2) (.k .nils),.mov (some 3) (.t 25)]⟩]) <|
 .ret)
 (.skip)) <|
 .seq (.gha (.own 6 (T 14) 5) <| .ops false [⟨none,[.mov (some 6) (.k .nils)]⟩]) <|
 .seq (.seq (.ops false [⟨none,[.mov (some 7) (.k (.int .i64 0))]⟩]) <|
 .block 0 <|
 .loop <|
 .seq (.seq (.ops false [⟨none,[.mov (some 26) (.t 7),.mov (some 27) (.t 0),.len (some 28) true (.t 27),.bin (some 29) .lss (.t 26) (.t 28)]⟩]) <|
 .cond (.t 29)
 (.skip)
 (.exit 0)) <|
 .block 1 <|
 .seq (.ops false [⟨none,[.mov (some 30) (.t 0),.len (some 31) true (.t 30),.mov (some 8) (.t 31)]⟩]) <|
 .seq (.ops false [⟨none,[.mov (some 32) (.t 0),.len (some 33) true (.t 32),.mov (some 9) (.t 33)]⟩]) <|
 .seqc (.seq (.ops false [⟨none,[.mov (some 34) (.t 0),.mov (some 35) (.t 7),.slcS (some 36) (.t 34) (some (.t 35)) none,.call (some 37) true (F 120) [(.t 36),(.k (.int .u8 10))],.mov (some 10) (.t 37)]⟩]) <|
 .seq (.ops false [⟨none,[.mov (some 38) (.t 10),.bin (some 39) .geq (.t 38) (.k (.int .i64 0))]⟩]) <|
 .cond (.t 39)
 (.ops false [⟨none,[.mov (some 40) (.t 7),.mov (some 41) (.t 10),.bin (some 42) .add (.t 40) (.t 41),.mov (some 43) (.t 7),.mov (some 44) (.t 10),.bin (some 45) .add (.t 43) (.t 44),.bin (some 46) .add (.t 45) (.k (.int .i64 1)),.mov (some 8) (.t 42),.mov (some 9) (.t 46)]⟩])
 (.skip)) <|
 .seq (.ops false [⟨none,[.mov (some 11) (.k (.bool true))]⟩]) <|
 .seq (.seq (.ops false [⟨none,[.mov (some 47) (.t 7),.mov (some 12) (.t 47)]⟩]) <|
 .block 2 <|
 .loop <|
 .seq (.seq (.ops false [⟨none,[.mov (some 48) (.t 12),.mov (some 49) (.t 8),.bin (some 50) .lss (.t 48) (.t 49)]⟩]) <|
 .cond (.t 50)
 (.skip)
 (.exit 2)) <|
 .seq (.block 3 <|
 .ops false [⟨none,[.mov (some 53) (.t 11),.mov (some 54) (.t 53)]⟩,
 ⟨some (54,true),[.mov (some 55) (.t 4),.mov (some 56) (.t 12),.iadr (some 57) 1 (.t 55) (.t 56),.load (some 58) false 1 false (.t 57)]⟩,
 ⟨none,[.pick (some 59) (.t 54) (.t 58) (.k (.bool false)),.mov (some 11) (.t 59)]⟩]) <|
 .ops false [⟨none,[.mov (some 51) (.t 12),.bin (some 52) .add (.t 51) (.k (.int .i64 1)),.mov (some 12) (.t 52)]⟩]) <|
 .seqc (.seq (.ops false [⟨none,[.mov (some 61) (.t 0),.mov (some 62) (.t 7),.mov (some 63) (.t 8),.slcS (some 64) (.t 61) (some (.t 62)) (some (.t 63)),.call (some 65) true (F 137) [(.t 64)],.mov (some 60) (.t 65),.ext (some 66) 0 (.t 60),.ext (some 67) 1 (.t 60),.ext (some 68) 2 (.t 60),.mov (some 13) (.t 66),.mov (some 14) (.t 67),.mov (some 15) (.t 68)]⟩]) <|
 .seq (.ops false [⟨none,[.mov (some 69) (.t 15),.mov (some 70) (.t 69)]⟩,
 ⟨some (70,true),[.mov (some 71) (.t 11)]⟩,
 ⟨none,[.pick (some 72) (.t 70) (.t 71) (.k (.bool false))]⟩]) <|
 .cond (.t 72)
 (.ops false [⟨none,[.mov (some 73) (.t 6),.mov (some 74) (.t 13),.mov (some 75) (.t 14),.mov (some 76) (.t 7),.mov (some 77) (.t 9),.mov (some 78) (.t 0),.len (some 79) true (.t 78),.build (some 80) [(.int .i64 0),(.str []),(.int .i64 0),(.int .i64 0),(.int .i64 0)] [(0,1,(.t 74)),(1,1,(.t 75)),(2,1,(.t 76)),(3,1,(.t 77)),(4,1,(.t 79))],.mkl (some 81) 5 [(.t 80)],.app 82 (T 14) 5 (.t 73) (.t 81),.mov (some 6) (.t 82)]⟩])
 (.skip)) <|
 .ops false [⟨none,[.mov (some 83) (.t 9),.mov (some 7) (.t 83)]⟩]) <|
 .seq (.seq (.ops false [⟨none,[.mov (some 84) (.t 6),.len (some 85) false (.t 84),.mov (some 86) (.k (.int .i64 0))]⟩]) <|
 .block 4 <|
 .loop <|
 .seq (.ops false [⟨none,[.bin (some 87) .lss (.t 86) (.t 85)]⟩]) <|
 .seq (.cond (.t 87)
 (.skip)
 (.exit 4)) <|
 .seq (.block 5 <|
 .seq (.ops false [⟨none,[.mov (some 88) (.t 86),.mov (some 16) (.t 88)]⟩]) <|
 .seq (.ops false [⟨none,[.mov (some 89) (.t 16),.bin (some 90) .add (.t 89) (.k (.int .i64 1)),.mov (some 17) (.t 90)]⟩]) <|
 .block 6 <|
 .loop <|
 .seq (.seq (.ops false [⟨none,[.mov (some 91) (.t 17),.mov (some 92) (.t 6),.len (some 93) false (.t 92),.bin (some 94) .lss (.t 91) (.t 93)]⟩]) <|
 .cond (.t 94)
 (.skip)
 (.exit 6)) <|
 .seq (.block 7 <|
 .seq (.ops true [⟨none,[.mov (some 97) (.t 6),.mov (some 98) (.t 17),.iadr (some 99) 5 (.t 97) (.t 98),.fadr (some 100) 0 (.t 99),.load (some 101) false 1 false (.t 100),.mov (some 102) (.t 6),.mov (some 103) (.t 16),.iadr (some 104) 5 (.t 102) (.t 103),.fadr (some 105) 0 (.t 104),.load (some 106) false 1 false (.t 105),.bin (some 107) .leq (.t 101) (.t 106)]⟩]) <|
 .cond (.t 107)
 (.seq (.ops false [⟨none,[.mov (some 108) (.t 6),.mov (some 109) (.t 16),.mov (some 110) (.t 6),.mov (some 111) (.t 17),.iadr (some 112) 5 (.t 110) (.t 111),.fadr (some 113) 2 (.t 112),.load (some 114) false 1 false (.t 113),.iadr (some 115) 5 (.t 108) (.t 109),.fadr (some 116) 4 (.t 115),.store 1 (.t 116) (.t 114)]⟩]) <|
 .exit 6)
 (.skip)) <|
 .ops false [⟨none,[.mov (some 95) (.t 17),.bin (some 96) .add (.t 95) (.k (.int .i64 1)),.mov (some 17) (.t 96)]⟩]) <|
 .ops false [⟨none,[.bin (some 117) .add (.t 86) (.k (.int .i64 1)),.mov (some 86) (.t 117)]⟩]) <|
 .seq (.ops false [⟨none,[.mov (some 118) (.t 6),.mov (some 2) (.t 118),.mov (some 3) (.k (.int .i64 0))]⟩]) <|
 .ret
abbrev Is124 (P:Program) (F T:Nat→Nat):Prop:=Fn P (F 124) 119 [(2,none),(3,none)] (c124 F T)
def c125 (F T:Nat→Nat):C :=
 .seq (.ops false [⟨none,[.mov (some 2) (.k (.str []))]⟩]) <|
 .seq (.block 0 <|
 .loop <|
 .seq (.seq (.ops false [⟨none,[.mov (some 3) (.t 0),.len (some 4) true (.t 3),.bin (some 5) .gtr (.t 4) (.k (.int .i64 0)),.mov (some 6) (.t 5)]⟩,
 ⟨some (6,true),[.mov (some 7) (.t 0),.idx (some 8) (.t 7) (.k (.int .i64 0)),.bin (some 9) .eql (.t 8) (.k (.int .u8 9)),.mov (some 10) (.t 9)]⟩,
 ⟨some (10,false),[.mov (some 11) (.t 0),.idx (some 12) (.t 11) (.k (.int .i64 0)),.bin (some 13) .eql (.t 12) (.k (.int .u8 32))]⟩,
 ⟨some (6,true),[.pick (some 14) (.t 10) (.k (.bool true)) (.t 13)]⟩,
 ⟨none,[.pick (some 15) (.t 6) (.t 14) (.k (.bool false))]⟩]) <|
 .cond (.t 15)
 (.skip)
 (.exit 0)) <|
 .block 1 <|
 .ops false [⟨none,[.mov (some 16) (.t 0),.slcS (some 17) (.t 16) (some (.k (.int .i64 1))) none,.mov (some 0) (.t 17)]⟩]) <|
 .seq (.ops false [⟨none,[.mov (some 18) (.t 0),.call (some 19) true (F 138) [(.t 18)],.mov (some 2) (.t 19)]⟩]) <|
 .ret
abbrev Is125 (P:Program) (F T:Nat→Nat):Prop:=Fn P (F 125) 20 [(2,none)] (c125 F T)
def c128 (F T:Nat→Nat):C :=
 .seq (.ops false [⟨none,[.mov (some 4) (.k (.int .i64 0)),.mov (some 5) (.k (.bool false))]⟩]) <|
 .seq (.ops false [⟨none,[.mov (some 8) (.t 1),.call (some 9) true (F 140) [(.t 8),(.k (.str [32,9]))],.mov (some 1) (.t 9)]⟩]) <|
 .seq (.seq (.ops false [⟨none,[.mov (some 10) (.t 0),.len (some 11) false (.t 10),.mov (some 12) (.k (.int .i64 0))]⟩]) <|
 .block 0 <|
 .loop <|
 .seq (.ops false [⟨none,[.bin (some 13) .lss (.t 12) (.t 11)]⟩]) <|
 .seq (.cond (.t 13)
 (.skip)
 (.exit 0)) <|
 .seq (.block 1 <|
 .seq (.ops false [⟨none,[.mov (some 14) (.t 12),.iadr (some 15) 5 (.t 10) (.t 12),.load (some 16) false 5 true (.t 15),.alloc 7 (T 14) [(.int .i64 0),(.str []),(.int .i64 0),(.int .i64 0),(.int .i64 0)],.mov (some 6) (.t 14),.store 5 (.t 7) (.t 16)]⟩]) <|
 .seq (.ops false [⟨none,[.fadr (some 17) 1 (.t 7),.load (some 18) false 1 false (.t 17),.mov (some 19) (.t 1),.bin (some 20) .eql (.t 18) (.t 19)]⟩]) <|
 .cond (.t 20)
 (.seq (.ops false [⟨none,[.mov (some 21) (.t 6),.mov (some 4) (.t 21),.mov (some 5) (.k (.bool true))]⟩]) <|
 .ret)
 (.skip)) <|
 .ops false [⟨none,[.bin (some 22) .add (.t 12) (.k (.int .i64 1)),.mov (some 12) (.t 22)]⟩]) <|
 .seq (.ops false [⟨none,[.mov (some 4) (.k (.int .i64 0)),.mov (some 5) (.k (.bool false))]⟩]) <|
 .ret
abbrev Is128 (P:Program) (F T:Nat→Nat):Prop:=Fn P (F 128) 23 [(4,none),(5,none)] (c128 F T)
def c129 (F T:Nat→Nat):C :=
 .seq (.ops false [⟨none,[.mov (some 4) (.k (.int .i64 0)),.mov (some 5) (.k (.bool false))]⟩]) <|
 .seq (.seq (.ops false [⟨none,[.mov (some 6) (.k (.int .i64 0))]⟩]) <|
 .block 0 <|
 .loop <|
 .seq (.seq (.ops false [⟨none,[.mov (some 7) (.t 6),.mov (some 8) (.t 0),.len (some 9) false (.t 8),.bin (some 10) .lss (.t 7) (.t 9)]⟩]) <|
 .cond (.t 10)
 (.skip)
 (.exit 0)) <|
 .seq (.block 1 <|
 .seq (.ops true [⟨none,[.mov (some 13) (.t 0),.mov (some 14) (.t 6),.iadr (some 15) 5 (.t 13) (.t 14),.fadr (some 16) 1 (.t 15),.load (some 17) false 1 false (.t 16),.mov (some 18) (.t 1),.call (some 19) true (F 125) [(.t 18)],.bin (some 20) .eql (.t 17) (.t 19)]⟩]) <|
 .cond (.t 20)
 (.seq (.ops false [⟨none,[.mov (some 21) (.t 6),.mov (some 4) (.t 21),.mov (some 5) (.k (.bool true))]⟩]) <|
 .ret)
 (.skip)) <|
 .ops false [⟨none,[.mov (some 11) (.t 6),.bin (some 12) .add (.t 11) (.k (.int .i64 1)),.mov (some 6) (.t 12)]⟩]) <|
 .seq (.ops false [⟨none,[.mov (some 4) (.k (.int .i64 0)),.mov (some 5) (.k (.bool false))]⟩]) <|
 .ret
abbrev Is129 (P:Program) (F T:Nat→Nat):Prop:=Fn P (F 129) 22 [(4,none),(5,none)] (c129 F T)
def c132 (F T:Nat→Nat):C :=
 .seq (.ops false [⟨none,[.mov (some 4) (.k (.str [])),.mov (some 5) (.k (.int .i64 0))]⟩]) <|
 .seq (.ops false [⟨none,[.mov (some 9) (.t 0),.mov (some 10) (.t 1),.call (some 11) true (F 141) [(.t 9),(.t 10)],.mov (some 8) (.t 11),.ext (some 12) 0 (.t 8),.ext (some 13) 1 (.t 8),.alloc 6 (T 14) [(.int .i64 0),(.str []),(.int .i64 0),(.int .i64 0),(.int .i64 0)],.store 5 (.t 6) (.t 12),.mov (some 7) (.t 13)]⟩]) <|
 .seq (.ops false [⟨none,[.mov (some 14) (.t 0),.fadr (some 15) 2 (.t 6),.load (some 16) false 1 false (.t 15),.fadr (some 17) 4 (.t 6),.load (some 18) false 1 false (.t 17),.slcS (some 19) (.t 14) (some (.t 16)) (some (.t 18)),.mov (some 20) (.t 7),.mov (some 4) (.t 19),.mov (some 5) (.t 20)]⟩]) <|
 .ret
abbrev Is132 (P:Program) (F T:Nat→Nat):Prop:=Fn P (F 132) 21 [(4,none),(5,none)] (c132 F T)
def c136 (F T:Nat→Nat):C :=
 .seq (.ops false [⟨none,[.mov (some 2) (.k .nils),.mov (some 3) (.k (.int .i64 0))]⟩]) <|
 .seq (.ops false [⟨none,[.mov (some 10) (.t 0),.call (some 11) true (F 36) [(.t 10)],.mov (some 9) (.t 11),.ext (some 12) 0 (.t 9),.ext (some 13) 1 (.t 9),.mov (some 4) (.t 12),.mov (some 5) (.t 13)]⟩]) <|
 .seq (.seq (.ops false [⟨none,[.mov (some 14) (.t 5),.bin (some 15) .neq (.t 14) (.k (.int .i64 0))]⟩]) <|
 .cond (.t 15)
 (.seq (.ops false [⟨none,[.mov (some 16) (.t 5),.mov (some 2) (.k .nils),.mov (some 3) (.t 16)]⟩]) <|
 .ret)
 (.skip)) <|
 .seq (.ops false [⟨none,[.mov (some 17) (.t 0),.len (some 18) true (.t 17),.mk0 19 (T 15) 1 (.t 18),.mov (some 6) (.t 19)]⟩]) <|
 .seq (.seq (.ops false [⟨none,[.mov (some 20) (.t 4),.len (some 21) false (.t 20),.mov (some 22) (.k (.int .i64 0))]⟩]) <|
 .block 0 <|
 .loop <|
 .seq (.ops false [⟨none,[.bin (some 23) .lss (.t 22) (.t 21)]⟩]) <|
 .seq (.cond (.t 23)
 (.skip)
 (.exit 0)) <|
 .seq (.block 1 <|
 .seq (.ops false [⟨none,[.iadr (some 24) 5 (.t 20) (.t 22),.load (some 25) false 5 true (.t 24),.alloc 8 (T 0) [(.int .i64 0),(.int .i64 0),(.str []),.nils,.nils],.store 5 (.t 8) (.t 25)]⟩]) <|
 .seq (.ops false [⟨none,[.load (some 26) false 5 true (.t 8),.mkl (some 27) 5 [(.t 26)],.call (some 28) true (F 2) [(.t 27)],.len (some 29) true (.t 28),.mov (some 30) (.k (.int .i64 0))]⟩]) <|
 .block 2 <|
 .loop <|
 .seq (.ops false [⟨none,[.bin (some 31) .lss (.t 30) (.t 29)]⟩]) <|
 .seq (.cond (.t 31)
 (.skip)
 (.exit 2)) <|
 .seq (.block 3 <|
 .ops false [⟨none,[.mov (some 32) (.t 6),.fadr (some 33) 0 (.t 8),.load (some 34) false 1 false (.t 33),.bin (some 35) .eql (.t 34) (.k (.int .i64 1)),.mkl (some 36) 1 [(.t 35)],.app 37 (T 15) 1 (.t 32) (.t 36),.mov (some 6) (.t 37)]⟩]) <|
 .ops false [⟨none,[.bin (some 38) .add (.t 30) (.k (.int .i64 1)),.mov (some 30) (.t 38)]⟩]) <|
 .ops false [⟨none,[.bin (some 39) .add (.t 22) (.k (.int .i64 1)),.mov (some 22) (.t 39)]⟩]) <|
 .seq (.ops false [⟨none,[.mov (some 40) (.t 6),.mov (some 2) (.t 40),.mov (some 3) (.k (.int .i64 0))]⟩]) <|
 .ret
abbrev Is136 (P:Program) (F T:Nat→Nat):Prop:=Fn P (F 136) 41 [(2,none),(3,none)] (c136 F T)
def c137 (F T:Nat→Nat):C :=
 .seq (.ops false [⟨none,[.mov (some 2) (.k (.int .i64 0)),.mov (some 3) (.k (.str [])),.mov (some 4) (.k (.bool false))]⟩]) <|
 .seq (.ops false [⟨none,[.mov (some 9) (.t 0),.call (some 10) true (F 143) [(.t 9),(.k (.str [32,9]))],.mov (some 0) (.t 10)]⟩]) <|
 .seq (.ops false [⟨none,[.mov (some 11) (.t 0),.len (some 12) true (.t 11),.mov (some 13) (.t 0),.call (some 14) true (F 144) [(.t 13),(.k (.str [61]))],.len (some 15) true (.t 14),.bin (some 16) .sub (.t 12) (.t 15),.mov (some 5) (.t 16)]⟩]) <|
 .seq (.ops false [⟨none,[.mov (some 17) (.t 0),.len (some 18) true (.t 17),.mov (some 19) (.t 0),.call (some 20) true (F 143) [(.t 19),(.k (.str [61]))],.len (some 21) true (.t 20),.bin (some 22) .sub (.t 18) (.t 21),.mov (some 6) (.t 22)]⟩]) <|
 .seq (.seq (.ops false [⟨none,[.mov (some 23) (.t 5),.bin (some 24) .eql (.t 23) (.k (.int .i64 0)),.mov (some 25) (.t 24)]⟩,
 ⟨some (25,false),[.mov (some 26) (.t 6),.bin (some 27) .eql (.t 26) (.k (.int .i64 0))]⟩,
 ⟨none,[.pick (some 28) (.t 25) (.k (.bool true)) (.t 27),.mov (some 29) (.t 28)]⟩,
 ⟨some (29,false),[.mov (some 30) (.t 5),.mov (some 31) (.t 0),.len (some 32) true (.t 31),.bin (some 33) .eql (.t 30) (.t 32)]⟩,
 ⟨none,[.pick (some 34) (.t 29) (.k (.bool true)) (.t 33)]⟩]) <|
 .cond (.t 34)
 (.seq (.ops false [⟨none,[.mov (some 2) (.k (.int .i64 0)),.mov (some 3) (.k (.str [])),.mov (some 4) (.k (.bool false))]⟩]) <|
 .ret)
 (.skip)) <|
 .seq (.ops false [⟨none,[.mov (some 35) (.t 5),.mov (some 36) (.t 6),.mx3 (some 37) false (.k (.int .i64 6)) (.t 35) (.t 36),.mov (some 7) (.t 37)]⟩]) <|
 .seq (.ops false [⟨none,[.mov (some 38) (.t 0),.mov (some 39) (.t 7),.mov (some 40) (.t 0),.len (some 41) true (.t 40),.mov (some 42) (.t 7),.bin (some 43) .sub (.t 41) (.t 42),.slcS (some 44) (.t 38) (some (.t 39)) (some (.t 43)),.call (some 45) true (F 140) [(.t 44),(.k (.str [32,9]))],.mov (some 8) (.t 45)]⟩]) <|
 .seq (.ops false [⟨none,[.mov (some 46) (.t 7),.mov (some 47) (.t 8),.mov (some 48) (.t 8),.bin (some 49) .neq (.t 48) (.k (.str [])),.mov (some 2) (.t 46),.mov (some 3) (.t 47),.mov (some 4) (.t 49)]⟩]) <|
 .ret
abbrev Is137 (P:Program) (F T:Nat→Nat):Prop:=Fn P (F 137) 50 [(2,none),(3,none),(4,none)] (c137 F T)
def c138 (F T:Nat→Nat):C :=
 .seq (.ops false [⟨none,[.mov (some 2) (.k (.str []))]⟩]) <|
 .seq (.block 0 <|
 .loop <|
 .seq (.seq (.ops false [⟨none,[.mov (some 3) (.t 0),.len (some 4) true (.t 3),.bin (some 5) .gtr (.t 4) (.k (.int .i64 0)),.mov (some 6) (.t 5)]⟩,
 ⟨some (6,true),[.mov (some 7) (.t 0),.mov (some 8) (.t 0),.len (some 9) true (.t 8),.bin (some 10) .sub (.t 9) (.k (.int .i64 1)),.idx (some 11) (.t 7) (.t 10),.bin (some 12) .eql (.t 11) (.k (.int .u8 9)),.mov (some 13) (.t 12)]⟩,
 ⟨some (13,false),[.mov (some 14) (.t 0),.mov (some 15) (.t 0),.len (some 16) true (.t 15),.bin (some 17) .sub (.t 16) (.k (.int .i64 1)),.idx (some 18) (.t 14) (.t 17),.bin (some 19) .eql (.t 18) (.k (.int .u8 32))]⟩,
 ⟨some (6,true),[.pick (some 20) (.t 13) (.k (.bool true)) (.t 19)]⟩,
 ⟨none,[.pick (some 21) (.t 6) (.t 20) (.k (.bool false))]⟩]) <|
 .cond (.t 21)
 (.skip)
 (.exit 0)) <|
 .block 1 <|
 .ops false [⟨none,[.mov (some 22) (.t 0),.mov (some 23) (.t 0),.len (some 24) true (.t 23),.bin (some 25) .sub (.t 24) (.k (.int .i64 1)),.slcS (some 26) (.t 22) none (some (.t 25)),.mov (some 0) (.t 26)]⟩]) <|
 .seq (.ops false [⟨none,[.mov (some 27) (.t 0),.mov (some 2) (.t 27)]⟩]) <|
 .ret
abbrev Is138 (P:Program) (F T:Nat→Nat):Prop:=Fn P (F 138) 28 [(2,none)] (c138 F T)
def c139 (F T:Nat→Nat):C :=
 .seq (.ops false [⟨none,[.mov (some 4) (.k (.bool false))]⟩]) <|
 .seq (.seq (.ops false [⟨none,[.mov (some 6) (.t 0),.len (some 7) false (.t 6),.mov (some 8) (.t 1),.len (some 9) false (.t 8),.bin (some 10) .neq (.t 7) (.t 9)]⟩]) <|
 .cond (.t 10)
 (.seq (.ops false [⟨none,[.mov (some 4) (.k (.bool false))]⟩]) <|
 .ret)
 (.skip)) <|
 .seq (.seq (.ops false [⟨none,[.mov (some 5) (.k (.int .i64 0))]⟩]) <|
 .block 0 <|
 .loop <|
 .seq (.seq (.ops false [⟨none,[.mov (some 11) (.t 5),.mov (some 12) (.t 0),.len (some 13) false (.t 12),.bin (some 14) .lss (.t 11) (.t 13)]⟩]) <|
 .cond (.t 14)
 (.skip)
 (.exit 0)) <|
 .seq (.block 1 <|
 .seq (.ops true [⟨none,[.mov (some 17) (.t 0),.mov (some 18) (.t 5),.iadr (some 19) 5 (.t 17) (.t 18),.load (some 20) false 5 true (.t 19),.mov (some 21) (.t 1),.mov (some 22) (.t 5),.iadr (some 23) 5 (.t 21) (.t 22),.load (some 24) false 5 true (.t 23),.eqA (some 25) true [0,1,0,0,0] (.t 20) (.t 24)]⟩]) <|
 .cond (.t 25)
 (.seq (.ops false [⟨none,[.mov (some 4) (.k (.bool false))]⟩]) <|
 .ret)
 (.skip)) <|
 .ops false [⟨none,[.mov (some 15) (.t 5),.bin (some 16) .add (.t 15) (.k (.int .i64 1)),.mov (some 5) (.t 16)]⟩]) <|
 .seq (.ops false [⟨none,[.mov (some 4) (.k (.bool true))]⟩]) <|
 .ret
abbrev Is139 (P:Program) (F T:Nat→Nat):Prop:=Fn P (F 139) 26 [(4,none)] (c139 F T)
def c141 (F T:Nat→Nat):C :=
 .seq (.ops false [⟨none,[.alloc 4 (T 14) [(.int .i64 0),(.str []),(.int .i64 0),(.int .i64 0),(.int .i64 0)],.mov (some 5) (.k (.int .i64 0))]⟩]) <|
 .seq (.ops false [⟨none,[.mov (some 9) (.t 0),.call (some 10) true (F 124) [(.t 9)],.mov (some 8) (.t 10),.ext (some 11) 0 (.t 8),.ext (some 12) 1 (.t 8),.mov (some 6) (.t 11),.mov (some 7) (.t 12)]⟩]) <|
 .seq (.seq (.ops false [⟨none,[.mov (some 13) (.t 7),.bin (some 14) .neq (.t 13) (.k (.int .i64 0))]⟩]) <|
 .cond (.t 14)
 (.seq (.ops false [⟨none,[.build (some 15) [(.int .i64 0),(.str []),(.int .i64 0),(.int .i64 0),(.int .i64 0)] [],.mov (some 16) (.t 7),.store 5 (.t 4) (.t 15),.mov (some 5) (.t 16)]⟩]) <|
 .ret)
 (.skip)) <|
 .seq (.seq (.ops false [⟨none,[.mov (some 17) (.t 1),.bin (some 18) .lss (.t 17) (.k (.int .i64 0)),.mov (some 19) (.t 18)]⟩,
 ⟨some (19,false),[.mov (some 20) (.t 1),.mov (some 21) (.t 6),.len (some 22) false (.t 21),.bin (some 23) .geq (.t 20) (.t 22)]⟩,
 ⟨none,[.pick (some 24) (.t 19) (.k (.bool true)) (.t 23)]⟩]) <|
 .cond (.t 24)
 (.seq (.ops false [⟨none,[.build (some 25) [(.int .i64 0),(.str []),(.int .i64 0),(.int .i64 0),(.int .i64 0)] [],.store 5 (.t 4) (.t 25),.mov (some 5) (.k (.int .i64 2))]⟩]) <|
 .ret)
 (.skip)) <|
 .seq (.ops false [⟨none,[.mov (some 26) (.t 6),.mov (some 27) (.t 1),.iadr (some 28) 5 (.t 26) (.t 27),.load (some 29) false 5 true (.t 28),.store 5 (.t 4) (.t 29),.mov (some 5) (.k (.int .i64 0))]⟩]) <|
 .ret
abbrev Is141 (P:Program) (F T:Nat→Nat):Prop:=Fn P (F 141) 30 [(4,(some (5,true))),(5,none)] (c141 F T)
end Go.Ab
namespace Go.Ab
variable {P:Program} {F T:Nat→Nat}
open Go.Lib
structure StrC0 (P:Program) (F:Nat→Nat):Prop where
 trim:∀ s:List UInt8,s.length≤9223372036854775807→PTr P (F 140) [.str s,.str [32,9]] (.str (trimS s wsp))
 right:∀ s cs:List UInt8,s.length≤100000→cs.length≤2→(∀ b,b∈cs→b.toNat<128)→PTr P (F 143) [.str s,.str cs] (.str (trimRightS s cs))
 left:∀ s cs:List UInt8,s.length≤100000→cs.length≤2→(∀ b,b∈cs→b.toNat<128)→PTr P (F 144) [.str s,.str cs] (.str (trimLeftS s cs))
 ib:∀ (s:List UInt8),PTr P (F 120) [.str s,.int .u8 10] (.int .i64 (indexByte s 10))
theorem right_le (s cs:List UInt8):(trimRightS s cs).length≤s.length:=by
 have:=(List.dropWhile_suffix (l:=s.reverse) (fun x=>cs.contains x)).length_le
 simp only [trimRightS,List.length_reverse] at this ⊢
 exact this
theorem left_le (s cs:List UInt8):(trimLeftS s cs).length≤s.length:=by
 exact (List.dropWhile_suffix (l:=s) (fun x=>cs.contains x)).length_le
theorem ptr_slen {f:Nat} {args:List V} {r:V} (i:Nat) (s:List UInt8) (hi:args[i]?=some (.str s)) (h:s.length≤9223372036854775807→PTr P f args r):PTr P f args r:=by
 intro D w vs hD hg hl hr
 have hb:s.length≤9223372036854775807:=by
  have hx:=hr i _ hi
  generalize vs.getD i undef=v at hx
  cases hx with
  | str _ hh=>omega
 exact h hb D w vs hD hg hl hr
theorem ptr_str2 {f:Nat} {s t r:List UInt8} (hr0:r.length<2^63) (h:∀ w:World,Calls P f #[.string ⟨s.toArray⟩,.string ⟨t.toArray⟩] w fun e w'=>e=.returned (.string ⟨r.toArray⟩)∧Go.RowKit.Below w.heap.size w w'):PTr P f [.str s,.str t] (.str r):=by
 intro D w vs hD hg hl hr
 obtain ⟨u,v,rfl,hu,hv⟩:=vs2 hl hr
 cases hu; cases hv
 refine (h w).mono ?_
 rintro e w' ⟨rfl,hb⟩
 exact ⟨_,rfl,hb,.str _ hr0⟩
theorem strc0_of
 (h1:∀ (s cs:ByteArray) (w:World),s.size≤9223372036854775807→cs.size<4294967281→(∀ (j:Nat) b,cs.data.toList[j]?=some b→b.toNat<128)→Calls P (F 140) #[.string s,.string cs] w fun e w'=>e=.returned (.string ⟨(trimS s.data.toList cs.data.toList).toArray⟩)∧Go.RowKit.Below w.heap.size w w')
 (h2:∀ (s cs:ByteArray) (w:World),s.size≤9223372036854775807→cs.size<4294967281→(∀ (j:Nat) b,cs.data.toList[j]?=some b→b.toNat<128)→Calls P (F 143) #[.string s,.string cs] w fun e w'=>e=.returned (.string ⟨(trimRightS s.data.toList cs.data.toList).toArray⟩)∧Go.RowKit.Below w.heap.size w w')
 (h3:∀ (s cs:ByteArray) (w:World),cs.size<4294967281→(∀ (j:Nat) b,cs.data.toList[j]?=some b→b.toNat<128)→Calls P (F 144) #[.string s,.string cs] w fun e w'=>e=.returned (.string ⟨(trimLeftS s.data.toList cs.data.toList).toArray⟩)∧Go.RowKit.Below w.heap.size w w')
 (h5:∀ (s:ByteArray) (c:Int) (w:World),Calls P (F 120) #[.string s,.int .u8 c] w fun e w'=>e=.returned (.int .i64 (indexByte s.data.toList c.toNat.toUInt8))∧w'=w):StrC0 P F:=by
 have mem:∀ {cs:List UInt8},(∀ b,b∈cs→b.toNat<128)→∀ (j:Nat) b,cs[j]?=some b→b.toNat<128:=fun h j b hb=>h b (List.mem_of_getElem? hb)
 refine ⟨fun s hs=>ptr_str2 (by have:=left_le (trimRightS s wsp) wsp; have:=right_le s wsp; unfold trimS; omega) fun w=>?_,fun s cs hs hc ha=>ptr_str2 (by have:=right_le s cs; omega) fun w=>?_,fun s cs hs hc ha=>ptr_str2 (by have:=left_le s cs; omega) fun w=>?_,fun s=>?_⟩
 ·exact h1 ⟨s.toArray⟩ ⟨([32,9]:List UInt8).toArray⟩ w (by simp [ByteArray.size]; omega) (by simp [ByteArray.size]) (mem (by decide))
 ·exact h2 ⟨s.toArray⟩ ⟨cs.toArray⟩ w (by simp [ByteArray.size]; omega) (by simp [ByteArray.size]; omega) (mem ha)
 ·exact h3 ⟨s.toArray⟩ ⟨cs.toArray⟩ w (by simp [ByteArray.size]; omega) (mem ha)
 ·intro D w vs hD hg hl hr
  obtain ⟨u,v,rfl,hu,hv⟩:=vs2 hl hr
  cases hu; cases hv
  refine (h5 ⟨s.toArray⟩ 10 w).mono ?_
  rintro e w' ⟨rfl,rfl⟩
  exact ⟨_,rfl,Go.RowKit.Below.refl _ _,.int _ _⟩
theorem dropW_run (c:UInt8):∀ s:List UInt8,(s.dropWhile ([c].contains ·)).length+runL c s=s.length
 | []=>rfl
 | x::r=>by
   have ih:=dropW_run c r
   by_cases h:x=c
   ·subst h
    simp [List.dropWhile,runL] at ih ⊢
    omega
   ·have h2:([c].contains x)=false:=by simp [h]
    simp [List.dropWhile,runL,h,h2]
theorem left_len (c:UInt8) (s:List UInt8):(trimLeftS s [c]).length+runL c s=s.length:=dropW_run c s
theorem right_len (c:UInt8) (s:List UInt8):(trimRightS s [c]).length+runL c s.reverse=s.length:=by
 have:=dropW_run c s.reverse
 simp only [trimRightS,List.length_reverse] at this ⊢
 exact this
theorem runL_le2 (c:UInt8) (s:List UInt8):runL c s≤s.length:=by have:=dropW_run c s; omega
theorem runL_rev_le (c:UInt8) (s:List UInt8):runL c s.reverse≤s.length:=by have:=runL_le2 c s.reverse; simpa using this
theorem runL_stop {c x:UInt8} (hx:x≠c):∀ (u v:List UInt8),runL c (u++x::v)≤u.length
 | [],v=>by simp [runL,hx]
 | y::u,v=>by
   have ih:=runL_stop hx u v
   simp only [List.cons_append,runL,List.length_cons]
   split <;> omega
theorem runL_split {c:UInt8}:∀ {s:List UInt8},runL c s<s.length→∃ u x v,s=u++x::v∧x≠c∧u.length=runL c s
 | [],h=>by simp [runL] at h
 | y::s,h=>by
   by_cases hy:y=c
   ·subst hy
    have e:runL y (y::s)=runL y s+1:=by simp [runL]
    rw [e] at h ⊢
    obtain ⟨u,x,v,rfl,hx,hu⟩:=runL_split (c:=y) (s:=s) (by simpa using h)
    exact ⟨y::u,x,v,rfl,hx,by simp [hu]⟩
   ·exact ⟨[],y,s,rfl,hy,by simp [runL,hy]⟩
theorem runL_ends {c:UInt8} {s:List UInt8} (h:runL c s<s.length):runL c s+runL c s.reverse<s.length:=by
 obtain ⟨u,x,v,rfl,hx,hu⟩:=runL_split h
 have:=runL_stop hx v.reverse u.reverse
 have e:(u++x::v).reverse=v.reverse++x::u.reverse:=by simp
 rw [e]
 simp at this ⊢
 omega
theorem runL_next {c:UInt8}:∀ {s:List UInt8} {i:Nat},i≤runL c s→i<s.length→((s.getD i 0=c)↔i<runL c s)
 | [],i,_,h=>by simp at h
 | x::r,i,h1,h2=>by
   by_cases hx:x=c
   ·subst hx
    have e:runL x (x::r)=runL x r+1:=by simp [runL]
    rw [e] at h1 ⊢
    cases i with
    | zero=>simp
    | succ i =>
      have:=runL_next (c:=x) (s:=r) (i:=i) (by omega) (by simpa using h2)
      simpa using this
   ·have e:runL c (x::r)=0:=by simp [runL,hx]
    rw [e] at h1 ⊢
    obtain rfl:i=0:=by omega
    simpa using hx
theorem wsp_mem (x:UInt8):wsp.contains x=true↔(x.toNat=9∨x.toNat=32):=by
 have h:∀ n:Nat,n<256→(x.toNat=n↔x=UInt8.ofNat n):=fun n hn=>⟨fun e=>by rw [← e]; simp,fun e=>by rw [e]; simp; omega⟩
 rw [h 9 (by omega),h 32 (by omega)]
 simp only [wsp,List.contains_cons,List.contains_nil,Bool.or_false,Bool.or_eq_true,beq_iff_eq]
 exact or_comm
theorem right_cons (cs:List UInt8) (x:UInt8) (r:List UInt8):trimRightS (x::r) cs=if trimRightS r cs=[] then (if cs.contains x then [] else [x]) else x::trimRightS r cs:=by
 simp only [trimRightS,List.reverse_cons,List.dropWhile_append,List.isEmpty_iff,List.reverse_eq_nil_iff]
 by_cases h:List.dropWhile (fun x=>cs.contains x) r.reverse=[]
 ·rw [if_pos h,if_pos h]
  cases hc:cs.contains x <;> simp only [List.dropWhile,hc,List.reverse_cons,List.reverse_nil,List.nil_append] <;> rfl
 ·rw [if_neg h,if_neg h]
  simp
theorem trim_comm (cs:List UInt8):∀ s:List UInt8,trimRightS (trimLeftS s cs) cs=trimLeftS (trimRightS s cs) cs
 | []=>rfl
 | x::r=>by
   have ih:=trim_comm cs r
   by_cases hx:cs.contains x=true
   ·have e:∀ q,trimLeftS (x::q) cs=trimLeftS q cs:=fun q=>by simp only [trimLeftS,List.dropWhile,hx]
    rw [e,ih,right_cons]
    by_cases h:trimRightS r cs=[]
    ·rw [if_pos h,if_pos hx,h]
    ·rw [if_neg h,e]
   ·have hx':cs.contains x=false:=by simpa using hx
    have e:∀ q:List UInt8,trimLeftS (x::q) cs=x::q:=fun q=>by simp only [trimLeftS,List.dropWhile,hx']
    rw [e,right_cons]
    by_cases h:trimRightS r cs=[]
    ·rw [if_pos h,if_neg hx,e]
    ·rw [if_neg h,e]
theorem right_step {s:List UInt8} (h:0<s.length):trimRightS s wsp=if (s.getD (s.length-1) 0).toNat=9∨(s.getD (s.length-1) 0).toNat=32 then trimRightS (s.take (s.length-1)) wsp else s:=by
 obtain ⟨u,x,rfl⟩:∃ u x,s=u++[x]:=by
  rcases List.eq_nil_or_concat s with rfl | ⟨u,x,rfl⟩
  ·simp at h
  ·exact ⟨u,x,by simp⟩
 have e1:(u++[x]).getD ((u++[x]).length-1) 0=x:=by simp
 have e2:(u++[x]).take ((u++[x]).length-1)=u:=by simp
 rw [e1,e2]
 by_cases hx:wsp.contains x=true
 ·rw [if_pos ((wsp_mem x).1 hx)]
  simp only [trimRightS,List.reverse_append,List.reverse_cons,List.reverse_nil,List.nil_append,List.cons_append,List.dropWhile,hx]
 ·rw [if_neg (fun q=>hx ((wsp_mem x).2 q))]
  have hx':wsp.contains x=false:=by simpa using hx
  simp only [trimRightS,List.reverse_append,List.reverse_cons,List.reverse_nil,List.nil_append,List.cons_append,List.dropWhile,hx',List.reverse_reverse]
theorem left_step {s:List UInt8} (h:0<s.length):trimLeftS s wsp=if (s.getD 0 0).toNat=9∨(s.getD 0 0).toNat=32 then trimLeftS (s.drop 1) wsp else s:=by
 cases s with
 | nil=>simp at h
 | cons x r =>
   have e1:(x::r).getD 0 0=x:=rfl
   have e2:(x::r).drop 1=r:=rfl
   rw [e1,e2]
   by_cases hx:wsp.contains x=true
   ·rw [if_pos ((wsp_mem x).1 hx)]
    simp only [trimLeftS,List.dropWhile,hx]
   ·rw [if_neg (fun q=>hx ((wsp_mem x).2 q))]
    have hx':wsp.contains x=false:=by simpa using hx
    simp only [trimLeftS,List.dropWhile,hx']
theorem t138 (hf:Is138 P F T) (s:List UInt8) (hs:s.length≤9223372036854775807):PTr P (F 138) [.str s] (.str (trimRightS s wsp)):=by
 refine ptrC [] hf (by simp) rfl ?_
 simp only [c138,push_cast,seval,-Nat.reducePow]
 refine loopK_intro (fun m s1=>∃ t,m=t.length∧t.length≤9223372036854775807∧trimRightS t wsp=trimRightS s wsp∧s1.env 0=.str t) s.length ⟨s,?_⟩ fun m s1 hJ=>?_
 ·simp only [push_cast,seval,-Nat.reducePow]
  exact hs
 ·obtain ⟨t,rfl,hl,ht,j0⟩:=hJ
  by_cases h0:0<t.length
  ·have h0':(0:Int)<(t.length:Nat):=by omega
   have hst:=right_step h0
   have e1:(((t.length:Nat):Int)-1).toNat=t.length-1:=by omega
   have e2:(t.take (t.length-1)).length=t.length-1:=by rw [List.length_take]; omega
   obtain ⟨x,hx⟩:∃ x,t.getD (t.length-1) 0=x:=⟨_,rfl⟩
   rw [hx] at hst
   by_cases h9:x.toNat=9
   ·have h9':((x.toNat:Nat):Int)=9:=by omega
    rw [if_pos (.inl h9)] at hst
    simp only [push_cast,seval,-Nat.reducePow,j0,h0',e1,hx,h9']
    repeat refine And.intro (by omega) ?_
    exact ⟨t.length-1,by omega,t.take (t.length-1),e2.symm,by omega,by rw [← hst]; exact ht,rfl⟩
   ·have h9':¬ ((x.toNat:Nat):Int)=9:=by omega
    by_cases h32:x.toNat=32
    ·have h32':((x.toNat:Nat):Int)=32:=by omega
     rw [if_pos (.inr h32)] at hst
     simp only [push_cast,seval,-Nat.reducePow,j0,h0',e1,hx,h9',h32']
     repeat refine And.intro (by omega) ?_
     exact ⟨t.length-1,by omega,t.take (t.length-1),e2.symm,by omega,by rw [← hst]; exact ht,rfl⟩
    ·have h32':¬ ((x.toNat:Nat):Int)=32:=by omega
     rw [if_neg (by omega)] at hst
     simp only [push_cast,seval,-Nat.reducePow,j0,h0',e1,hx,h9',h32']
     repeat refine And.intro (by omega) ?_
     rw [← ht,hst]; rfl
  ·have h0':¬ (0:Int)<(t.length:Nat):=by omega
   have:t=[]:=List.eq_nil_of_length_eq_zero (by omega)
   subst this
   simp only [push_cast,seval,-Nat.reducePow,j0]
   rw [← ht]; rfl
theorem t125 (hf:Is125 P F T) (h138:Is138 P F T) (s:List UInt8) (hs:s.length≤9223372036854775807):PTr P (F 125) [.str s] (.str (trimS s wsp)):=by
 refine ptrC [] hf (by simp) rfl ?_
 simp only [c125,push_cast,seval,-Nat.reducePow]
 refine loopK_intro (fun m s1=>∃ t,m=t.length∧t.length≤9223372036854775807∧trimLeftS t wsp=trimLeftS s wsp∧s1.env 0=.str t) s.length ⟨s,?_⟩ fun m s1 hJ=>?_
 ·simp only [push_cast,seval,-Nat.reducePow]
  exact hs
 ·obtain ⟨t,rfl,hl,ht,j0⟩:=hJ
  have hfin:trimLeftS t wsp=t→trimRightS t wsp=trimS s wsp:=fun e=>by rw [trimS,← trim_comm,← ht,e]
  by_cases h0:0<t.length
  ·have h0':(0:Int)<(t.length:Nat):=by omega
   have hst:=left_step h0
   have e2:(t.drop 1).length=t.length-1:=by rw [List.length_drop]
   obtain ⟨x,hx⟩:∃ x,t.getD 0 0=x:=⟨_,rfl⟩
   rw [hx] at hst
   by_cases h9:x.toNat=9
   ·have h9':((x.toNat:Nat):Int)=9:=by omega
    rw [if_pos (.inl h9)] at hst
    simp only [push_cast,seval,-Nat.reducePow,j0,h0',hx,h9',List.take_length]
    repeat refine And.intro (by omega) ?_
    exact ⟨t.length-1,by omega,t.drop 1,e2.symm,by omega,by rw [← hst]; exact ht,rfl⟩
   ·have h9':¬ ((x.toNat:Nat):Int)=9:=by omega
    by_cases h32:x.toNat=32
    ·have h32':((x.toNat:Nat):Int)=32:=by omega
     rw [if_pos (.inr h32)] at hst
     simp only [push_cast,seval,-Nat.reducePow,j0,h0',hx,h9',h32',List.take_length]
     repeat refine And.intro (by omega) ?_
     exact ⟨t.length-1,by omega,t.drop 1,e2.symm,by omega,by rw [← hst]; exact ht,rfl⟩
    ·have h32':¬ ((x.toNat:Nat):Int)=32:=by omega
     rw [if_neg (by omega)] at hst
     simp only [push_cast,seval,-Nat.reducePow,j0,h0',hx,h9',h32']
     repeat refine And.intro (by omega) ?_
     refine callK_intro (t138 h138 t hl) (by simp only [push_cast,seval,-Nat.reducePow]) (by simp only [push_cast,seval,-Nat.reducePow]) ?_
     simp only [push_cast,seval,-Nat.reducePow,view,hfin hst]
  ·have h0':¬ (0:Int)<(t.length:Nat):=by omega
   have:t=[]:=List.eq_nil_of_length_eq_zero (by omega)
   subst this
   simp only [push_cast,seval,-Nat.reducePow,j0]
   refine callK_intro (t138 h138 [] (by simp)) (by simp only [push_cast,seval,-Nat.reducePow]) (by simp only [push_cast,seval,-Nat.reducePow]) ?_
   simp only [push_cast,seval,-Nat.reducePow,view,hfin rfl]
end Go.Ab
namespace Go.Ab
variable {P:Program} {F T:Nat→Nat}
open Go.Lib
def hdT (s:List UInt8):List UInt8:=trimRightS s wsp
def hdN (s:List UInt8):Nat:=min 6 (min (runL 61 (hdT s)) (runL 61 (hdT s).reverse))
def hdS (s:List UInt8):List UInt8:=trimS (((hdT s).take ((hdT s).length-hdN s)).drop (hdN s)) wsp
def hdBad (s:List UInt8):Prop:=runL 61 (hdT s)=0∨runL 61 (hdT s).reverse=0∨runL 61 (hdT s)=(hdT s).length
instance (s:List UInt8):Decidable (hdBad s):=by unfold hdBad; infer_instance
theorem headF_eq (s:List UInt8):headF s=if hdBad s then none else if hdS s=[] then none else some (hdN s,hdS s):=rfl
theorem hdT_le (s:List UInt8):(hdT s).length≤s.length:=right_le s wsp
theorem hdN_le {s:List UInt8} (h:¬ hdBad s):0<hdN s∧2*hdN s<(hdT s).length∧hdN s≤6:=by
 simp only [hdBad,not_or] at h
 have:=runL_le2 61 (hdT s)
 have:=runL_ends (c:=61) (s:=hdT s) (by omega)
 unfold hdN
 omega
def hdV (s:List UInt8):V:=if hdBad s then .tup [.int .i64 0,.str [],.bool false] else .tup [.int .i64 (hdN s),.str (hdS s),.bool (!decide (hdS s=[]))]
theorem t137 (hf:Is137 P F T) (S:StrC0 P F) (s:List UInt8) (hs:s.length≤100000):PTr P (F 137) [.str s] (hdV s):=by
 have hTl:=hdT_le s
 have e2:=left_len 61 (hdT s)
 have e3:=right_len 61 (hdT s)
 have imm:(hdV s).imm=true:=by unfold hdV; split <;> rfl
 refine ptrC [] hf (by simp) imm ?_
 have hT:trimRightS s wsp=hdT s:=rfl
 have c1:=S.right s wsp hs (by decide) (by decide)
 have c2:=S.left (hdT s) [61] (by omega) (by decide) (by decide)
 have c3:=S.right (hdT s) [61] (by omega) (by decide) (by decide)
 rw [hT] at c1
 have f1:(((hdT s).length:Nat):Int)-(((trimLeftS (hdT s) [61]).length:Nat):Int)=(runL 61 (hdT s):Nat):=by omega
 have f2:(((hdT s).length:Nat):Int)-(((trimRightS (hdT s) [61]).length:Nat):Int)=(runL 61 (hdT s).reverse:Nat):=by omega
 have f3:min (min 6 ((runL 61 (hdT s):Nat):Int)) ((runL 61 (hdT s).reverse:Nat):Int)=(hdN s:Nat):=by unfold hdN; omega
 have f4:(((hdT s).length:Nat):Int)-(hdN s:Nat)=(((hdT s).length-hdN s:Nat):Int)∨hdBad s:=by
  by_cases h:hdBad s
  ·exact .inr h
  ·have:=hdN_le h
   exact .inl (by omega)
 simp only [c137,push_cast,seval,-Nat.reducePow]
 refine callK_intro c1 (by simp only [push_cast,seval,-Nat.reducePow]) (by simp only [push_cast,seval,-Nat.reducePow]) ?_
 simp only [push_cast,seval,-Nat.reducePow]
 refine callK_intro c2 (by simp only [push_cast,seval,-Nat.reducePow]) (by simp only [push_cast,seval,-Nat.reducePow]) ?_
 simp only [push_cast,seval,-Nat.reducePow]
 repeat refine And.intro (by omega) ?_
 refine callK_intro c3 (by simp only [push_cast,seval,-Nat.reducePow]) (by simp only [push_cast,seval,-Nat.reducePow]) ?_
 simp only [push_cast,seval,-Nat.reducePow,f1,f2]
 repeat refine And.intro (by omega) ?_
 by_cases h1:runL 61 (hdT s)=0
 ·have h1':((runL 61 (hdT s):Nat):Int)=0:=by omega
  have hb:hdBad s:=.inl h1
  simp only [push_cast,seval,-Nat.reducePow,f1,f2,h1',hdV,hb,view,if_true]
 ·have h1':¬ ((runL 61 (hdT s):Nat):Int)=0:=by omega
  by_cases h2:runL 61 (hdT s).reverse=0
  ·have h2':((runL 61 (hdT s).reverse:Nat):Int)=0:=by omega
   have hb:hdBad s:=.inr (.inl h2)
   simp only [push_cast,seval,-Nat.reducePow,f1,f2,h1',h2',hdV,hb,view,if_true]
  ·have h2':¬ ((runL 61 (hdT s).reverse:Nat):Int)=0:=by omega
   by_cases h3:runL 61 (hdT s)=(hdT s).length
   ·have h3':((runL 61 (hdT s):Nat):Int)=((hdT s).length:Nat):=by omega
    have hb:hdBad s:=.inr (.inr h3)
    have h4':¬ (((hdT s).length:Nat):Int)=0:=by omega
    simp only [push_cast,seval,-Nat.reducePow,f1,f2,h4',h2',h3',hdV,hb,view,if_true]
   ·have h3':¬ ((runL 61 (hdT s):Nat):Int)=((hdT s).length:Nat):=by omega
    have hb:¬ hdBad s:=by unfold hdBad; omega
    have f5:=f4.resolve_right hb
    obtain ⟨g1,g2,g3⟩:=hdN_le hb
    simp only [push_cast,seval,-Nat.reducePow,f1,f2,f3,f5,h1',h2',h3',mxI_min]
    repeat refine And.intro (by omega) ?_
    refine callK_intro (S.trim _ (by rw [List.length_drop,List.length_take]; omega)) (by simp only [push_cast,seval,-Nat.reducePow]) (by simp only [push_cast,seval,-Nat.reducePow]) ?_
    have hS:trimS (List.drop (hdN s) (List.take ((hdT s).length-hdN s) (hdT s))) wsp=hdS s:=rfl
    rw [hS]
    simp only [push_cast,seval,-Nat.reducePow,hdV,hb,view,if_false]
def hdR (s:List UInt8):V:=if hdBad s∨hdS s=[] then .tup [.int .i64 0,.str []] else .tup [.int .i64 (hdN s),.str (hdS s)]
theorem run_at {s:List UInt8} {i:Nat} (h1:i≤runL 61 s) (h2:i<s.length):((s.getD i 0).toNat=61↔i<runL 61 s):=by
 rw [← runL_next h1 h2]
 exact ⟨fun e=>by
  have:s.getD i 0=UInt8.ofNat (s.getD i 0).toNat:=by simp
  rw [this,e]; rfl,fun e=>by rw [e]; rfl⟩
theorem run_rev {s:List UInt8} {i:Nat} (h2:i<s.length):s.reverse.getD i 0=s.getD (s.length-1-i) 0:=by
 simp only [List.getD,List.getElem?_reverse h2]
end Go.Ab
namespace Go.Ab
variable {P:Program} {F T:Nat→Nat}
def bls (l:List Bool):List V:=l.map .bool
theorem bls_len (l:List Bool):(bls l).length=l.length:=by simp [bls]
theorem bls_imm:∀ l:List Bool,V.imms (bls l)=true
 | []=>rfl
 | x::r=>by simp [bls,V.imms,V.imm]; exact bls_imm r
theorem bls_at (l:List Bool) {i:Nat} (h:i<l.length):(bls l).getD i .junk=.bool (l.getD i false):=by
 simp [bls,List.getD,h]
theorem bls_snoc (l:List Bool) (b:Bool):bls l++[.bool b]=bls (l++[b]):=by simp [bls]
theorem rep_snoc {α:Type} (n:Nat) (a:α):List.replicate n a++[a]=List.replicate (n+1) a:=by
 rw [List.replicate_succ']
theorem srcs_one (x:Node):srcs [x]=x.src:=by simp [srcs]
theorem srcs_mid:∀ (d:List Node) (x:Node) (r:List Node),(srcs (d++x::r)).length=(srcs d).length+x.src.length+(srcs r).length
 | [],x,r=>by simp [srcs]
 | y::d,x,r=>by
   have:=srcs_mid d x r
   simp only [List.cons_append,srcs,List.length_append] at this ⊢
   omega
theorem plainF_snoc (d:List Node) (x:Node):plainF (d++[x])=plainF d++List.replicate x.src.length (decide (x.kind=1)):=by
 rw [plainF_app]; simp [plainF]
theorem view_own1 {L:Heap} {i ty z sz n:Nat} {es:List V} (h:L i=some (.vec ty z es)) (hi:V.imms es=true) (hn:n=es.length):view L 3 (.own i sz 0 n)=.lst sz es:=by
 subst hn
 simp only [view,h,Nat.zero_add,Nat.le_refl,if_true,List.drop_zero,List.take_length]
 rw [show es.map (view L 2)=es.map id from List.map_congr_left fun x hx=>view_imm 2 x (imms_mem hi hx),List.map_id]
theorem view_own2 {L:Heap} {i ty z sz n:Nat} {k:IntKind} {m:Int} {es:List V} (h:L i=some (.vec ty z es)) (hi:V.imms es=true) (hn:n=es.length):view L 3 (.tup [.own i sz 0 n,.int k m])=.tup [.lst sz es,.int k m]:=by
 subst hn
 have:=view2_own (sz:=sz) h hi
 simp only [view,List.map_cons,List.map_nil] at this ⊢
 rw [this]
theorem encs_cut (d:List Node) (x:Node) (r:List Node):List.drop d.length (List.take (d.length+1) (encs (d++x::r)))=[.agg x.cs]:=by
 rw [encs_append]
 have e:d.length=(encs d).length:=(encs_length d).symm
 rw [e,List.take_append,List.drop_append]
 simp [encs,encs_length]
theorem t136 (hf:Is136 P F T) (h2:∀ l:List Node,bulks l≤2^26→PTr P (F 2) [.lst 5 (encs l)] (.str (srcs l))) (s:List UInt8) (l:List Node) (hp:PTr P (F 36) [.str s] (.tup [.lst 5 (encs l),.int .i64 0])) (hs:s.length≤100000) (hb:bulks l≤2^26) (hl:(srcs l).length≤100000) (hn:l.length≤1000000) :
 PTr P (F 136) [.str s] (.tup [.lst 1 (bls (plainF l)),.int .i64 0]):=by
 refine ptrC [] hf (by simp) (by simp [V.imm,V.imms,bls_imm]) ?_
 simp only [c136,push_cast,seval,-Nat.reducePow]
 refine callK_intro hp (by simp only [push_cast,seval,-Nat.reducePow]) (by simp only [push_cast,seval,-Nat.reducePow,imms_encs]) ?_
 simp only [push_cast,seval,-Nat.reducePow]
 repeat refine And.intro (by omega) ?_
 refine loopK_intro (fun m s1=>∃ d r id,l=d++r∧m=r.length∧s1.env 20=.lst 5 (encs l)∧s1.env 21=.int .i64 l.length∧s1.env 22=.int .i64 d.length∧s1.env 6=.own id 1 0 (plainF d).length∧s1.L id=some (.vec (T 15) 1 (bls (plainF d)))∧id<s1.nx) l.length ⟨[],l,142,?_⟩ fun m s1 hJ=>?_
 ·simp only [push_cast,seval,-Nat.reducePow]
  exact ⟨rfl,rfl⟩
 ·obtain ⟨d,r,id,rfl,rfl,j0,j5,j4,j3,jL,hid⟩:=hJ
  cases r with
  | nil =>
    have h0:¬ ((d.length:Nat):Int)<(((d++[]).length:Nat):Int):=by simp
    simp only [push_cast,seval,-Nat.reducePow,j0,j3,j4,j5,jL,h0]
    exact view_own2 jL (bls_imm _) (bls_len _).symm
  | cons x r =>
    have h0:((d.length:Nat):Int)<(((d++x::r).length:Nat):Int):=by simp; omega
    have hx:=encs_at d x r
    rw [srcs_mid] at hl
    have hb1:bulks [x]≤2^26:=by
     have:=bulks_append d (x::r)
     have e1:bulks (x::r)=bulks [x]+bulks r:=bulks_append [x] r
     omega
    have h2x:=h2 [x] hb1
    have hpl:plainF (d++[x])=plainF d++List.replicate x.src.length (decide (x.kind=1)):=plainF_snoc d x
    rw [srcs_one] at h2x
    have hdl:(plainF d).length=(srcs d).length:=plainF_len d
    have hn2:d.length≤1000000:=by rw [List.length_append] at hn; omega
    generalize x.src=w at *
    obtain ⟨k,tg,tx,ks,av⟩:=x
    simp only [push_cast,seval,-Nat.reducePow,j0,j3,j4,j5,jL,h0,hx,Node.cs]
    refine callK_intro h2x (by simp only [push_cast,seval,-Nat.reducePow,Node.cs]) (by simp only [push_cast,seval,-Nat.reducePow]) ?_
    simp only [push_cast,seval,-Nat.reducePow,j0,j3,j4,j5,jL,h0,hx,Node.cs]
    have hbb:decide ((Node.mk k tg tx ks av).kind=1)=decide (k=1):=rfl
    rw [hbb] at hpl
    refine loopK_intro (fun m s2=>∃ j id2,j≤w.length∧m=w.length-j∧s2.env 20=.lst 5 (encs (d++Node.mk k tg tx ks av::r))∧s2.env 21=.int .i64 (d++Node.mk k tg tx ks av::r).length∧s2.env 22=.int .i64 d.length∧s2.env 29=.int .i64 w.length∧s2.env 30=.int .i64 j∧s2.env 8=.ptr (s1.nx+49) 0∧s2.env 6=.own id2 1 0 ((plainF d).length+j)∧s2.L id2=some (.vec (T 15) 1 (bls (plainF d++List.replicate j (decide (k=1)))))∧s2.L (s1.nx+49)=some (.box (T 0) [.int .i64 k,.int .i64 tg,.str tx,.lst 5 (encs ks),.lst 3 (encA av)])∧id2<s2.nx∧s1.nx+49<s2.nx∧id2≠s1.nx+49) w.length ⟨0,id,?_⟩ fun m s2 hJ=>?_
    ·have hne:id≠s1.nx+49:=by omega
     simp only [push_cast,seval,-Nat.reducePow,j0,j3,j4,j5,jL,hne]
     simp
     omega
    ·obtain ⟨j,id2,hj,rfl,k0,k1,k2,k3,k4,k5,k6,kL,kB,kid,kq,kne⟩:=hJ
     by_cases hjw:j<w.length
     ·have hjw':((j:Nat):Int)<((w.length:Nat):Int):=by omega
      have hlen:(bls (plainF d++List.replicate j (decide (k=1)))).length=(plainF d).length+j:=by rw [bls_len,List.length_append,List.length_replicate]
      have htk:List.take ((plainF d).length+j) (bls (plainF d++List.replicate j (decide (k=1))))=bls (plainF d++List.replicate j (decide (k=1))):=List.take_of_length_le (by omega)
      have hsn:bls (plainF d++List.replicate j (decide (k=1)))++[.bool (decide (k=1))]=bls (plainF d++List.replicate (j+1) (decide (k=1))):=by rw [bls_snoc,List.append_assoc,rep_snoc]
      have hne2:s1.nx+49≠s2.nx+37:=by omega
      have hne3:s1.nx+49≠id2:=by omega
      simp only [push_cast,seval,-Nat.reducePow,k0,k1,k2,k3,k4,k5,k6,kL,kB,hjw',hlen,htk,hsn,hne2,hne3]
      refine ⟨by omega,by omega,w.length-(j+1),by omega,j+1,s2.nx+78,by omega,rfl,by simp,rfl,upd_same _ _ _,?_,by omega,by omega,by omega⟩
      rw [upd_ne _ _ _ _ (by omega),upd_ne _ _ _ _ (by omega)]; exact kB
     ·have hjw':¬ ((j:Nat):Int)<((w.length:Nat):Int):=by omega
      obtain rfl:j=w.length:=by omega
      simp only [push_cast,seval,-Nat.reducePow,k0,k1,k2,k3,k4,k5,k6,kL,kB,hjw']
      repeat refine And.intro (by omega) ?_
      refine ⟨r.length,by simp,d++[.mk k tg tx ks av],r,id2,by simp,rfl,by simp,?_,?_,by omega⟩
      ·rw [hpl]; simp
      ·rw [hpl]; exact kL
end Go.Ab
namespace Go.Ab
variable {P:Program} {F T:Nat→Nat}
open Go.Lib
theorem secV_len (l:List Sec):(secV l).length=l.length:=by simp [secV]
theorem secV_imm:∀ l:List Sec,V.imms (secV l)=true
 | []=>rfl
 | x::r=>by simp [secV,V.imms,V.imm,Sec.v]; exact secV_imm r
theorem secV_snoc (l:List Sec) (x:Sec):secV l++[x.v]=secV (l++[x]):=by simp [secV]
theorem secV_at (d:List Sec) (x:Sec) (r:List Sec):(secV (d++x::r)).getD d.length .junk=x.v:=by
 simp [secV,List.getD]
theorem secV_set (d:List Sec) (x y:Sec) (r:List Sec):(secV (d++x::r)).set d.length y.v=secV (d++y::r):=by
 simp only [secV,List.map_append,List.map_cons]
 rw [List.set_append_right _ _ (by simp)]
 simp
theorem line_ix:∀ s:List UInt8,indexByte s 10=if lineL s<s.length then (lineL s:Int) else -1
 | []=>rfl
 | x::r=>by
   have ih:=line_ix r
   by_cases hx:x=10
   ·subst hx
    simp [indexByte,lineL]
   ·have e:lineL (x::r)=lineL r+1:=by simp [lineL,hx]
    have hx':(x==10)=false:=by simpa using hx
    rw [e]
    simp only [indexByte,hx',List.length_cons,Bool.false_eq_true,if_false]
    rw [ih]
    by_cases h:lineL r<r.length
    ·have h2:lineL r+1<r.length+1:=by omega
     have h3:(((lineL r:Nat):Int)==-1)=false:=by rw [beq_eq_false_iff_ne]; omega
     simp only [h,h2,if_true,h3,Bool.false_eq_true,if_false]
     omega
    ·have h2:¬ lineL r+1<r.length+1:=by omega
     simp only [h,h2,if_false]
     rfl
def allP (p:List Bool) (i j:Nat):Bool:=((p.take j).drop i).all id
theorem allP_nil (p:List Bool) (i:Nat):allP p i i=true:=by simp [allP]
theorem allP_step (p:List Bool) {i j:Nat} (hi:i≤j) (hj:j<p.length):allP p i (j+1)=(allP p i j&&p.getD j false):=by
 simp only [allP]
 rw [List.take_succ_eq_append_getElem hj,List.drop_append_of_le_length (by simp; omega),List.all_append]
 simp [List.getD,hj]
theorem rawF_step (s:List UInt8) (p:List Bool) {i:Nat} (h:i<s.length):rawF s p (s.length+1) i=secAt s p i++rawF s p (s.length+1) (min (lineE s i+1) s.length):=by
 have:=lineE_le (s:=s) (i:=i) (by omega)
 conv=>lhs; rw [rawF]
 rw [if_pos h,rawF_fuel s p s.length (s.length+1) _ (by omega) (by omega)]
theorem rawF_end (s:List UInt8) (p:List Bool) (n:Nat) {i:Nat} (h:s.length≤i):rawF s p n i=[]:=by
 cases n with
 | zero=>rfl
 | succ n=>rw [rawF,if_neg (by omega)]
def endS (x:Sec) (n:Nat):Sec:={ x with to:=n }
theorem toOf_none {x:Sec} {q:List Sec} (h:∀ y,y∈q→x.lev<y.lev):toOf x q=x:=by
 have:q.find? (fun y=>decide (y.lev≤x.lev))=none:=by
  rw [List.find?_eq_none]
  intro y hy
  have:=h y hy
  simp; omega
 simp [toOf,this]
theorem toOf_some {x y:Sec} {u v:List Sec} (h:∀ y,y∈u→x.lev<y.lev) (hy:y.lev≤x.lev):toOf x (u++y::v)=endS x y.fr:=by
 have:(u++y::v).find? (fun y=>decide (y.lev≤x.lev))=some y:=by
  rw [List.find?_append]
  have:u.find? (fun y=>decide (y.lev≤x.lev))=none:=by
   rw [List.find?_eq_none]
   intro y hy
   have:=h y hy
   simp; omega
  rw [this]
  simp [hy]
 simp [toOf,this,endS]
theorem toOf_cons (x y:Sec) (v:List Sec):toOf x (y::v)=if y.lev≤x.lev then endS x y.fr else toOf x v:=by
 by_cases h:y.lev≤x.lev
 ·rw [if_pos h]
  exact toOf_some (u:=[]) (by simp) h
 ·rw [if_neg h]
  simp [toOf,h]
theorem line_len {s:List UInt8} {i:Nat} (h:i≤s.length):(s.drop i).length=s.length-i:=List.length_drop
def hdOk (s:List UInt8):Bool:=!decide (hdBad s)&&!decide (hdS s=[])
theorem secAt_eq (s:List UInt8) (p:List Bool) (i:Nat):secAt s p i =
 if (hdOk ((s.take (lineE s i)).drop i)&&allP p i (lineE s i))=true then [⟨hdN ((s.take (lineE s i)).drop i),hdS ((s.take (lineE s i)).drop i),i,min (lineE s i+1) s.length,s.length⟩] else []:=by
 simp only [secAt,headF_eq,hdOk,allP]
 by_cases h1:((p.take (lineE s i)).drop i).all id=true
 rotate_left
 ·simp [h1]
 ·by_cases h2:hdBad ((s.take (lineE s i)).drop i)
  ·simp [h2]
  ·by_cases h3:hdS ((s.take (lineE s i)).drop i)=[] <;> simp [h1,h2,h3]
theorem t124 (hf:Is124 P F T) (S:StrC0 P F) (h137:Is137 P F T) (s:List UInt8) (hs:s.length≤8192) (h136:PTr P (F 136) [.str s] (.tup [.lst 1 (bls (plainF (parseF s))),.int .i64 0])):PTr P (F 124) [.str s] (.tup [.lst 5 (secV (sectF s)),.int .i64 0]):=by
 obtain ⟨p,hp⟩:∃ p,p=plainF (parseF s):=⟨_,rfl⟩
 have hpl:p.length=s.length:=by rw [hp,plainF_len,srcs_parseF]
 have hsec:sectF s=toF (rawF s p (s.length+1) 0):=by rw [sectF,hp]
 have hcnt:=rawF_count s p (s.length+1) 0
 rw [← hp] at h136
 refine ptrC [] hf (by simp) (by simp [V.imm,V.imms,secV_imm]) ?_
 simp only [c124,push_cast,seval,-Nat.reducePow]
 refine callK_intro h136 (by simp only [push_cast,seval,-Nat.reducePow]) (by simp only [push_cast,seval,-Nat.reducePow,bls_imm]) ?_
 simp only [push_cast,seval,-Nat.reducePow]
 refine loopK_intro (fun m s1=>∃ a i id,rawF s p (s.length+1) 0=a++rawF s p (s.length+1) i∧m=s.length-i∧i≤s.length∧a.length≤i∧s1.env 0=.str s∧s1.env 4=.lst 1 (bls p)∧s1.env 7=.int .i64 i∧s1.env 6=.own id 5 0 a.length∧s1.L id=some (.vec (T 14) 5 (secV a))∧id<s1.nx) s.length ⟨[],0,476,?_⟩ fun m s1 hJ=>?_
 ·simp only [push_cast,seval,-Nat.reducePow]
  exact ⟨by omega,rfl⟩
 ·obtain ⟨a,i,id,hra,rfl,hi,hal,j0,j4,j7,j6,jL,hid⟩:=hJ
  by_cases hlt:i<s.length
  ·have hlt':((i:Nat):Int)<((s.length:Nat):Int):=by omega
   have hle:=lineE_le (s:=s) (i:=i) hi
   rw [rawF_step s p hlt] at hra
   have hib:=S.ib (s.drop i)
   rw [line_ix,line_len hi] at hib
   have hsq:=secAt_eq s p i
   have hEd:lineE s i=i+lineL (s.drop i):=rfl
   generalize lineE s i=E at *
   obtain ⟨N,hN⟩:∃ N,N=min (E+1) s.length:=⟨_,rfl⟩
   rw [← hN] at hra hsq
   simp only [push_cast,seval,-Nat.reducePow,j0,j4,j7,j6,jL,hlt',List.take_length]
   refine cutK_intro (fun s2=>s2.env 0=.str s∧s2.env 4=.lst 1 (bls p)∧s2.env 7=.int .i64 i∧s2.env 6=.own id 5 0 a.length∧s2.L id=some (.vec (T 14) 5 (secV a))∧id<s2.nx∧s2.env 8=.int .i64 E∧s2.env 9=.int .i64 N) ?_ ?_
   ·simp only [push_cast,seval,-Nat.reducePow,j0,j4,j7,j6,jL,List.take_length]
    repeat refine And.intro (by omega) ?_
    by_cases hl:lineL (s.drop i)<s.length-i
    ·rw [if_pos hl] at hib
     have hl0:(0:Int)≤((lineL (s.drop i):Nat):Int):=by omega
     have e1:((i:Nat):Int)+((lineL (s.drop i):Nat):Int)=(E:Nat):=by omega
     have e2:((E:Nat):Int)+1=(N:Nat):=by omega
     refine callK_intro hib (by simp only [push_cast,seval,-Nat.reducePow]) (by simp only [push_cast,seval,-Nat.reducePow]) ?_
     simp only [push_cast,seval,-Nat.reducePow,j0,j4,j7,j6,jL,hl0,e1,e2]
     omega
    ·rw [if_neg hl] at hib
     have hle2:=lineL_le (s.drop i)
     rw [line_len hi] at hle2
     obtain rfl:E=s.length:=by omega
     obtain rfl:N=s.length:=by omega
     refine callK_intro hib (by simp only [push_cast,seval,-Nat.reducePow]) (by simp only [push_cast,seval,-Nat.reducePow]) ?_
     simp only [push_cast,seval,-Nat.reducePow,j0,j4,j7,j6,jL]
     omega
   ·rintro s2 ⟨k0,k4,k7,k6,kL,kid,k8,k9⟩
    simp only [push_cast,seval,-Nat.reducePow,k0,k4,k7,k6,kL,k8,k9]
    refine loopK_intro (fun m s3=>∃ j,i≤j∧j≤E∧m=E-j∧s3.env 0=.str s∧s3.env 4=.lst 1 (bls p)∧s3.env 7=.int .i64 i∧s3.env 6=.own id 5 0 a.length∧s3.L id=some (.vec (T 14) 5 (secV a))∧id<s3.nx∧s3.env 8=.int .i64 (E)∧s3.env 9=.int .i64 N∧s3.env 12=.int .i64 j∧s3.env 11=.bool (allP p i j)) (E-i) ⟨i,?_⟩ fun m s3 hJ=>?_
    ·simp only [push_cast,seval,-Nat.reducePow,k0,k4,k7,k6,kL,k8,k9,allP_nil]
     omega
    ·obtain ⟨j,hij,hje,rfl,g0,g4,g7,g6,gL,gid,g8,g9,g12,g11⟩:=hJ
     by_cases hj:j<E
     ·have hj':((j:Nat):Int)<((E:Nat):Int):=by omega
      have hjp:j<p.length:=by omega
      have hat:=bls_at p hjp
      have hjb:j<(bls p).length:=by rw [bls_len]; exact hjp
      have hst:=allP_step p hij hjp
      cases hb:allP p i j with
      | true =>
        rw [hb,Bool.true_and] at hst
        rw [hb] at g11
        simp only [push_cast,seval,-Nat.reducePow,g0,g4,g7,g6,gL,g8,g9,g12,g11,hj',hat]
        exact ⟨hjb,by omega,E-(j+1),by omega,j+1,by omega,by omega,rfl,by omega,by simp,by rw [hst]⟩
      | false =>
        rw [hb,Bool.false_and] at hst
        rw [hb] at g11
        simp only [push_cast,seval,-Nat.reducePow,g0,g4,g7,g6,gL,g8,g9,g12,g11,hj']
        exact ⟨by omega,E-(j+1),by omega,j+1,by omega,by omega,rfl,by omega,by simp,by rw [hst]⟩
     ·have hj':¬ ((j:Nat):Int)<((E:Nat):Int):=by omega
      obtain rfl:E=j:=by omega
      simp only [push_cast,seval,-Nat.reducePow,g0,g4,g7,g6,gL,g8,g9,g12,g11,hj']
      refine cutK_intro (fun s4=>∃ id2,s4.env 0=.str s∧s4.env 4=.lst 1 (bls p)∧s4.env 9=.int .i64 N∧s4.env 6=.own id2 5 0 (a++secAt s p i).length∧s4.L id2=some (.vec (T 14) 5 (secV (a++secAt s p i)))∧id2<s4.nx) ?_ ?_
      ·have hcal:=t137 h137 S ((s.take E).drop i) (by rw [List.length_drop,List.length_take]; omega)
       have himm:(hdV ((s.take E).drop i)).imm=true:=by unfold hdV; split <;> rfl
       have htk:List.take a.length (secV a)=secV a:=List.take_of_length_le (by rw [secV_len]; omega)
       have htl:((a.length:Nat):Int)=((secV a).length:Nat):=by rw [secV_len]
       simp only [push_cast,seval,-Nat.reducePow,g0,g4,g7,g6,gL,g8,g9,g12,g11]
       repeat refine And.intro (by omega) ?_
       refine callK_intro hcal (by simp only [push_cast,seval,-Nat.reducePow]) himm ?_
       generalize (s.take E).drop i=ln at *
       simp only [hdV] at himm ⊢
       by_cases hbad:hdBad ln
       ·have hs0:secAt s p i=[]:=by rw [hsq]; simp [hdOk,hbad]
        rw [if_pos hbad,hs0,List.append_nil]
        simp only [push_cast,seval,-Nat.reducePow,g0,g4,g7,g6,gL,g8,g9,g12,g11]
        exact ⟨id,rfl,gL,by omega⟩
       ·rw [if_neg hbad]
        by_cases hem:hdS ln=[]
        ·have hs0:secAt s p i=[]:=by rw [hsq]; simp [hdOk,hbad,hem]
         rw [hs0,List.append_nil]
         simp only [push_cast,seval,-Nat.reducePow,g0,g4,g7,g6,gL,g8,g9,g12,g11,hem]
         exact ⟨id,rfl,gL,by omega⟩
        ·cases hall:allP p i E with
         | false =>
           have hs0:secAt s p i=[]:=by rw [hsq]; simp [hdOk,hbad,hem,hall]
           rw [hs0,List.append_nil]
           rw [hall] at g11
           simp only [push_cast,seval,-Nat.reducePow,g0,g4,g7,g6,gL,g8,g9,g12,g11,hem]
           exact ⟨id,rfl,gL,by omega⟩
         | true =>
           have hs0:secAt s p i=[⟨hdN ln,hdS ln,i,N,s.length⟩]:=by rw [hsq]; simp [hdOk,hbad,hem,hall]
           have hsn:=secV_snoc a ⟨hdN ln,hdS ln,i,N,s.length⟩
           simp only [Sec.v] at hsn
           rw [hs0]
           rw [hall] at g11
           simp only [push_cast,seval,-Nat.reducePow,g0,g4,g7,g6,gL,g8,g9,g12,g11,hem,htk,hsn]
           exact ⟨by rw [secV_len]; omega,by omega,s3.nx+439,by simp,upd_same _ _ _,by omega⟩
      ·rintro s4 ⟨id2,m0,m4,m9,m6,mL,mid⟩
       simp only [push_cast,seval,-Nat.reducePow,m0,m4,m9,m6,mL]
       have hsl:(secAt s p i).length≤1:=by rw [hsq]; split <;> simp
       exact ⟨s.length-N,by omega,a++secAt s p i,N,id2,by rw [hra,List.append_assoc],rfl,by omega,by rw [List.length_append]; omega,rfl,rfl,mL,by omega⟩
  ·have hlt':¬ ((i:Nat):Int)<((s.length:Nat):Int):=by omega
   obtain rfl:i=s.length:=by omega
   rw [rawF_end s p _ (Nat.le_refl _),List.append_nil] at hra
   simp only [push_cast,seval,-Nat.reducePow,j0,j4,j7,j6,jL,hlt']
   refine loopK_intro (fun m s2=>∃ d r id,toF a=d++toF r∧a.length=d.length+r.length∧m=r.length∧s2.env 85=.int .i64 a.length∧s2.env 86=.int .i64 d.length∧s2.env 6=.own id 5 0 a.length∧s2.L id=some (.vec (T 14) 5 (secV (d++r)))∧id<s2.nx) a.length ⟨[],a,id,?_⟩ fun m s2 hJ=>?_
   ·simp only [push_cast,seval,-Nat.reducePow,j0,j4,j7,j6,jL]
    omega
   ·obtain ⟨d,r,id,htf,hlen,rfl,k5,k6,k7,kL,kid⟩:=hJ
    cases r with
    | nil =>
      have hd:¬ ((d.length:Nat):Int)<((a.length:Nat):Int):=by simp at hlen; omega
      simp only [push_cast,seval,-Nat.reducePow,k5,k6,k7,kL,hd]
      rw [hsec,hra,htf]
      simp only [toF]
      exact view_own2 kL (secV_imm _) (by rw [secV_len,List.length_append,hlen])
    | cons x q =>
      have hd:((d.length:Nat):Int)<((a.length:Nat):Int):=by simp at hlen; omega
      simp only [List.length_cons] at hlen
      simp only [push_cast,seval,-Nat.reducePow,k5,k6,k7,kL,hd]
      repeat refine And.intro (by omega) ?_
      refine loopK_intro (fun m s3=>∃ u v,q=u++v∧(∀ y,y∈u→x.lev<y.lev)∧m=v.length∧s3.env 85=.int .i64 a.length∧s3.env 86=.int .i64 d.length∧s3.env 16=.int .i64 d.length∧s3.env 17=.int .i64 (d.length+1+u.length:Nat)∧s3.env 6=.own id 5 0 a.length∧s3.L id=some (.vec (T 14) 5 (secV (d++x::q)))∧id<s3.nx) q.length ⟨[],q,?_⟩ fun m s3 hJ=>?_
      ·simp only [push_cast,seval,-Nat.reducePow,k5,k6,k7,kL]
       omega
      ·obtain ⟨u,v,rfl,hu,rfl,g5,g6,g16,g17,g7,gL,gid⟩:=hJ
       have hx:=secV_at d x (u++v)
       generalize hK:d.length+1+u.length=K at *
       simp only [List.length_append] at hlen
       cases v with
       | nil =>
         have hk:¬ ((K:Nat):Int)<((a.length:Nat):Int):=by simp at hlen; omega
         simp only [push_cast,seval,-Nat.reducePow,g5,g6,g16,g17,g7,gL,hk]
         have htn:=toOf_none (x:=x) (q:=u) hu
         simp only [List.append_nil] at htf gL ⊢
         refine ⟨by omega,u.length,by omega,d++[x],u,id,?_,by simp; omega,rfl,by simp,rfl,by simpa using gL,by omega⟩
         rw [htf]; simp [toF,htn]
       | cons y v =>
         have hk:((K:Nat):Int)<((a.length:Nat):Int):=by simp at hlen; omega
         have hy:(secV (d++x::(u++y::v))).getD K .junk=y.v:=by
          have:=secV_at (d++x::u) y v
          rw [show (d++x::u).length=K by simp; omega] at this
          simpa using this
         by_cases hyx:y.lev≤x.lev
         ·have hyx':((y.lev:Nat):Int)≤((x.lev:Nat):Int):=by omega
          simp only [push_cast,seval,-Nat.reducePow,g5,g6,g16,g17,g7,gL,hk,hx,hy,Sec.v,hyx']
          have hls:(secV (d++x::(u++y::v))).length=d.length+(u.length+(v.length+1)+1):=by rw [secV_len]; simp
          have hse:=secV_set d x (endS x y.fr) (u++y::v)
          have hts:=toOf_some (x:=x) (y:=y) (u:=u) (v:=v) hu hyx
          simp only [Sec.v,endS] at hse hts
          refine ⟨by omega,by omega,by omega,by omega,by omega,by omega,by omega,by omega,by omega,(u++y::v).length,Nat.lt_succ_self _,d++[toOf x (u++y::v)],u++y::v,id,?_,by simp at hlen ⊢; omega,rfl,by simp,rfl,?_,by omega⟩
          ·rw [htf]; simp [toF]
          ·rw [upd_same,hse,hts]; simp
         ·have hyx':¬ ((y.lev:Nat):Int)≤((x.lev:Nat):Int):=by omega
          simp only [push_cast,seval,-Nat.reducePow,g5,g6,g16,g17,g7,gL,hk,hx,hy,Sec.v,hyx']
          have hls:(secV (d++x::(u++y::v))).length=d.length+(u.length+(v.length+1)+1):=by rw [secV_len]; simp
          refine ⟨by omega,by omega,by omega,by omega,by omega,v.length,by omega,u++[y],v,by simp,?_,rfl,?_,by omega⟩
          ·intro z hz
           rw [List.mem_append,List.mem_singleton] at hz
           rcases hz with hz | rfl
           ·exact hu z hz
           ·omega
          ·simp; omega
end Go.Ab
namespace Go.Ab
variable {P:Program} {F T:Nat→Nat}
open Go.Lib
def SectC (P:Program) (f:Nat):Prop:=∀ s:List UInt8,s.length≤8192→PTr P f [.str s] (.tup [.lst 5 (secV (sectF s)),.int .i64 0])
theorem ptr_up {f:Nat} {args:List V} {r r':V} (h:PTr P f args r) (hl:r.le r'):PTr P f args r':=by
 intro D w vs hD hg hn hr
 refine (h D w vs hD hg hn hr).mono ?_
 rintro e w' ⟨v,h1,h2,h3⟩
 exact ⟨v,h1,h2,h3.le hl⟩
theorem plain_of (hf:Is136 P F T) (h2:∀ l:List Node,bulks l≤2^26→PTr P (F 2) [.lst 5 (encs l)] (.str (srcs l))) (s:List UInt8) (hp:PTr P (F 36) [.str s] (.tup [ln 5 (vns (parseF s)),.int .i64 0])) (hs:s.length≤8192) :
 PTr P (F 136) [.str s] (.tup [.lst 1 (bls (plainF (parseF s))),.int .i64 0]):=by
 have hb:=parseF_bulk s
 have hr:=srcs_parseF s
 refine t136 hf h2 s (parseF s) (ptr_up hp ?_) (by omega) (by omega) (by rw [hr]; omega) ?_
 ·simp only [V.le]
  refine ⟨_,rfl,?_⟩
  rw [leL_cons,leL_cons,leL_nil,and_true]
  exact ⟨le_ln (le_vns _),V.le_refl _⟩
 ·have:=len_bulks (parseF s)
  omega
theorem t139 (hf:Is139 P F T) (l:List Sec) (hl:l.length≤100000):PTr P (F 139) [.lst 5 (secV l),.lst 5 (secV l)] (.bool true):=by
 refine ptrC [] hf (by simp [secV_imm]) rfl ?_
 have hlen:=secV_len l
 simp only [c139,push_cast,seval,-Nat.reducePow]
 refine loopK_intro (fun m s1=>∃ i,i≤l.length∧m=l.length-i∧s1.env 0=.lst 5 (secV l)∧s1.env 1=.lst 5 (secV l)∧s1.env 5=.int .i64 i) l.length ⟨0,?_⟩ fun m s1 hJ=>?_
 ·simp only [push_cast,seval,-Nat.reducePow]
  omega
 ·obtain ⟨i,hi,rfl,j0,j1,j5⟩:=hJ
  by_cases h:i<l.length
  ·have h':((i:Nat):Int)<((secV l).length:Nat):=by omega
   have hx:(secV l).getD i .junk=(l[i]).v:=by simp [secV,List.getD,h]
   obtain ⟨lv,ti,fr,bd,to⟩:=l[i]
   simp only [Sec.v] at hx
   simp only [push_cast,seval,-Nat.reducePow,j0,j1,j5,h',hx]
   refine ⟨by omega,by omega,by omega,l.length-(i+1),by omega,i+1,by omega,rfl,by simp⟩
  ·have h':¬ ((i:Nat):Int)<((secV l).length:Nat):=by omega
   simp only [push_cast,seval,-Nat.reducePow,j0,j1,j5,h',view]
def leadF (s:List UInt8):List UInt8:=match sectF s with | []=>s | x::_=>s.take x.fr
def zsec:Sec:=⟨0,[],0,0,0⟩
def partS (l:List Sec) (i:Int):Sec:=if 0≤i∧i<l.length then l.getD i.toNat zsec else zsec
def partE (l:List Sec) (i:Int):Int:=if 0≤i∧i<l.length then 0 else 2
theorem t141 (hf:Is141 P F T) (h124:SectC P (F 124)) (s:List UInt8) (hs:s.length≤8192) (i:Int):PTr P (F 141) [.str s,.int .i64 i] (.tup [(partS (sectF s) i).v,.int .i64 (partE (sectF s) i)]):=by
 have h1:=h124 s hs
 refine ptrC [] hf (by simp) (by simp [V.imm,V.imms,Sec.v]) ?_
 simp only [c141,push_cast,seval,-Nat.reducePow]
 refine callK_intro h1 (by simp only [push_cast,seval,-Nat.reducePow]) (by simp only [push_cast,seval,-Nat.reducePow,secV_imm]) ?_
 generalize sectF s=l
 have hlen:=secV_len l
 by_cases h0:i<0
 ·have hp:partS l i=zsec:=by unfold partS; rw [if_neg (by omega)]
  have he:partE l i=2:=by unfold partE; rw [if_neg (by omega)]
  simp only [push_cast,seval,-Nat.reducePow,h0,hp,he,zsec,Sec.v,view]
 ·by_cases h2:(l.length:Int)≤i
  ·have hp:partS l i=zsec:=by unfold partS; rw [if_neg (by omega)]
   have he:partE l i=2:=by unfold partE; rw [if_neg (by omega)]
   have h2':(((secV l).length:Nat):Int)≤i:=by omega
   simp only [push_cast,seval,-Nat.reducePow,h0,h2',hp,he,zsec,Sec.v,view]
  ·have h2':¬ (((secV l).length:Nat):Int)≤i:=by omega
   have hp:partS l i=l.getD i.toNat zsec:=by unfold partS; rw [if_pos (by omega)]
   have he:partE l i=0:=by unfold partE; rw [if_pos (by omega)]
   obtain ⟨k,rfl⟩:∃ k:Nat,i=k:=⟨i.toNat,by omega⟩
   have hk:k<l.length:=by omega
   have hx:(secV l).getD k .junk=(l.getD k zsec).v:=by simp [secV,List.getD,hk]
   simp only [Int.toNat_natCast] at hp
   rw [hp,he]
   generalize l.getD k zsec=x at *
   obtain ⟨lv,ti,fr,bd,to⟩:=x
   simp only [Sec.v] at hx ⊢
   simp only [push_cast,seval,-Nat.reducePow,h0,h2',hx,view]
   omega
theorem partS_ok (s:List UInt8) (i:Int):(partS (sectF s) i).fr≤(partS (sectF s) i).bd∧(partS (sectF s) i).bd≤(partS (sectF s) i).to∧(partS (sectF s) i).to≤s.length:=by
 unfold partS
 split
 ·rename_i h
  have hk:i.toNat<(sectF s).length:=by omega
  have hm:(sectF s).getD i.toNat zsec∈sectF s:=by simp [List.getD,hk]
  have:=sect_ok s _ hm
  exact ⟨Nat.le_of_lt this.bd,this.le,this.to⟩
 ·exact ⟨Nat.le_refl _,Nat.le_refl _,Nat.zero_le _⟩
def textF (s:List UInt8) (i:Int):List UInt8:=(s.take (partS (sectF s) i).to).drop (partS (sectF s) i).fr
theorem t132 (hf:Is132 P F T) (h141:Is141 P F T) (h124:SectC P (F 124)) (s:List UInt8) (hs:s.length≤8192) (i:Int):PTr P (F 132) [.str s,.int .i64 i] (.tup [.str (textF s i),.int .i64 (partE (sectF s) i)]):=by
 have h1:=t141 h141 h124 s hs i
 obtain ⟨o1,o2,o3⟩:=partS_ok s i
 refine ptrC [] hf (by simp) rfl ?_
 simp only [c132,push_cast,seval,-Nat.reducePow]
 unfold textF
 generalize partS (sectF s) i=x at *
 generalize partE (sectF s) i=e at *
 obtain ⟨lv,ti,fr,bd,to⟩:=x
 simp only [Sec.v] at h1 o1 o2 o3 ⊢
 refine callK_intro h1 (by simp only [push_cast,seval,-Nat.reducePow]) (by simp only [push_cast,seval,-Nat.reducePow]) ?_
 simp only [push_cast,seval,-Nat.reducePow,view]
 omega
end Go.Ab
