/- Several texts of one kind, merged. No condition. -/
import Derived.Test.YtjakkhalapaofaaGreatDoorAbR8
import Derived.Lib.SlTrimSet
import Derived.Test.YtjakkhalapaofaaGreatDoorAbR1
import Derived.KernelRfl
set_option linter.unusedSimpArgs false
set_option linter.unusedVariables false
namespace Go.Ab
def wsp:List UInt8:=[32,9]
def plainF (l:List Node):List Bool:=l.flatMap fun n=>List.replicate n.src.length (decide (n.kind=1))
theorem plainF_len:∀ l:List Node,(plainF l).length=(srcs l).length
 | []=>by simp [plainF,srcs]
 | n::r=>by
   have ih:=plainF_len r
   simp only [plainF] at ih
   simp [plainF,srcs,ih]
def headF (s:List UInt8):Option (Nat×List UInt8) :=
 if runL 61 (Go.Lib.trimRightS s wsp)=0∨runL 61 (Go.Lib.trimRightS s wsp).reverse=0∨runL 61 (Go.Lib.trimRightS s wsp)=(Go.Lib.trimRightS s wsp).length then none
 else
  if Go.Lib.trimS (((Go.Lib.trimRightS s wsp).take ((Go.Lib.trimRightS s wsp).length-min 6 (min (runL 61 (Go.Lib.trimRightS s wsp)) (runL 61 (Go.Lib.trimRightS s wsp).reverse)))).drop (min 6 (min (runL 61 (Go.Lib.trimRightS s wsp)) (runL 61 (Go.Lib.trimRightS s wsp).reverse)))) wsp=[] then none
  else some (min 6 (min (runL 61 (Go.Lib.trimRightS s wsp)) (runL 61 (Go.Lib.trimRightS s wsp).reverse)),Go.Lib.trimS (((Go.Lib.trimRightS s wsp).take ((Go.Lib.trimRightS s wsp).length-min 6 (min (runL 61 (Go.Lib.trimRightS s wsp)) (runL 61 (Go.Lib.trimRightS s wsp).reverse)))).drop (min 6 (min (runL 61 (Go.Lib.trimRightS s wsp)) (runL 61 (Go.Lib.trimRightS s wsp).reverse)))) wsp)
structure Sec where
 lev:Nat
 title:List UInt8
 fr:Nat
 bd:Nat
 to:Nat
def lineL:List UInt8→Nat
 | []=>0
 | x::r=>if x=10 then 0 else lineL r+1
theorem lineL_le:∀ s:List UInt8,lineL s≤s.length
 | []=>Nat.le_refl _
 | x::r=>by
   have:=lineL_le r
   simp only [lineL,List.length_cons]
   split <;> omega
def lineE (s:List UInt8) (i:Nat):Nat:=i+lineL (s.drop i)
theorem lineE_le {s:List UInt8} {i:Nat} (h:i≤s.length):i≤lineE s i∧lineE s i≤s.length:=by
 have:=lineL_le (s.drop i)
 rw [List.length_drop] at this
 unfold lineE
 omega
def secAt (s:List UInt8) (p:List Bool) (i:Nat):List Sec :=
 if ((p.take (lineE s i)).drop i).all id then
  match headF ((s.take (lineE s i)).drop i) with
  | some (k,t)=>[⟨k,t,i,min (lineE s i+1) s.length,s.length⟩]
  | none=>[]
 else []
def rawF (s:List UInt8) (p:List Bool):Nat→Nat→List Sec
 | 0,_=>[]
 | n+1,i=>if i<s.length then secAt s p i++rawF s p n (min (lineE s i+1) s.length) else []
def toOf (x:Sec) (r:List Sec):Sec:={ x with to:=match r.find? (fun y=>decide (y.lev≤x.lev)) with | some y=>y.fr | none=>x.to }
def toF:List Sec→List Sec
 | []=>[]
 | x::r=>toOf x r::toF r
def sectF (s:List UInt8):List Sec:=toF (rawF s (plainF (parseF s)) (s.length+1) 0)
def Sec.v (x:Sec):V:=.agg [.int .i64 x.lev,.str x.title,.int .i64 x.fr,.int .i64 x.bd,.int .i64 x.to]
def secV (l:List Sec):List V:=l.map Sec.v
theorem rawF_fuel (s:List UInt8) (p:List Bool):∀ (n m i:Nat),s.length<n+i→s.length<m+i→rawF s p n i=rawF s p m i
 | 0,0,_,_,_=>rfl
 | 0,m+1,i,h,_=>by
   simp only [rawF]
   rw [if_neg (by omega)]
 | n+1,0,i,_,h=>by
   simp only [rawF]
   rw [if_neg (by omega)]
 | n+1,m+1,i,h1,h2=>by
   simp only [rawF]
   by_cases hi:i<s.length
   ·rw [if_pos hi,if_pos hi]
    have:=lineE_le (s:=s) (i:=i) (by omega)
    rw [rawF_fuel s p n m (min (lineE s i+1) s.length) (by omega) (by omega)]
   ·rw [if_neg hi,if_neg hi]
end Go.Ab
namespace Go.Ab
theorem rawF_count (s:List UInt8) (p:List Bool):∀ (n i:Nat),(rawF s p n i).length≤s.length-i
 | 0,i=>by simp [rawF]
 | n+1,i=>by
   simp only [rawF]
   by_cases hi:i<s.length
   ·rw [if_pos hi]
    have:=lineE_le (s:=s) (i:=i) (by omega)
    have h2:=rawF_count s p n (min (lineE s i+1) s.length)
    have h1:(secAt s p i).length≤1:=by
     simp only [secAt]
     split
     ·split <;> simp
     ·simp
    rw [List.length_append]
    omega
   ·rw [if_neg hi]; simp
end Go.Ab
namespace Go.Ab
def c124 (F T:Nat→Nat):C :=
 .n [.mov (some 2) (.k .nils),.mov (some 3) (.i 0)] <|
 .n [.m 19 0,.c 20 (F 136) [.t 19],.m 18 20,.x 21 0 18,.x 22 1 18,.m 4 21,.m 5 22] <|
 .seq (.n [.m 23 5,.bi 24 .neq 23 0] <|
 .cond (.t 24)
 (.n [.m 25 5,.mov (some 2) (.k .nils),.m 3 25] <|
 .ret)
 (.skip)) <|
 .seq (.gha (.own 6 (T 14) 5) <| .o [.mov (some 6) (.k .nils)]) <|
 .seq (.n [.mov (some 7) (.i 0)] <|
 .block 0 <|
 .loop <|
 .seq (.n [.m 26 7,.m 27 0,.ls 28 27,.b 29 .lss 26 28] <|
 .cond (.t 29)
 (.skip)
 (.exit 0)) <|
 .block 1 <|
 .n [.m 30 0,.ls 31 30,.m 8 31] <|
 .n [.m 32 0,.ls 33 32,.m 9 33] <|
 .seqc (.n [.m 34 0,.m 35 7,.slcS (some 36) (.t 34) (some (.t 35)) none,.c 37 (F 120) [.t 36,(.k (.int .u8 10))],.m 10 37] <|
 .n [.m 38 10,.bi 39 .geq 38 0] <|
 .cond (.t 39)
 (.o [.m 40 7,.m 41 10,.b 42 .add 40 41,.m 43 7,.m 44 10,.b 45 .add 43 44,.bi 46 .add 45 1,.m 8 42,.m 9 46])
 (.skip)) <|
 .n [.mov (some 11) (.k (.bool true))] <|
 .seq (.n [.m 47 7,.m 12 47] <|
 .block 2 <|
 .loop <|
 .seq (.n [.m 48 12,.m 49 8,.b 50 .lss 48 49] <|
 .cond (.t 50)
 (.skip)
 (.exit 2)) <|
 .seq (.block 3 <|
 .ops false [⟨none,[.m 53 11,.m 54 53]⟩,
 ⟨some (54,true),[.m 55 4,.m 56 12,.ia 57 1 55 56,.l 58 57]⟩,
 ⟨none,[.pf 59 54 58,.m 11 59]⟩]) <|
 .o [.m 51 12,.bi 52 .add 51 1,.m 12 52]) <|
 .seqc (.n [.m 61 0,.m 62 7,.m 63 8,.slcS (some 64) (.t 61) (some (.t 62)) (some (.t 63)),.c 65 (F 137) [.t 64],.m 60 65,.x 66 0 60,.x 67 1 60,.x 68 2 60,.m 13 66,.m 14 67,.m 15 68] <|
 .seq (.ops false [⟨none,[.m 69 15,.m 70 69]⟩,
 ⟨some (70,true),[.m 71 11]⟩,
 ⟨none,[.pf 72 70 71]⟩]) <|
 .cond (.t 72)
 (.o [.m 73 6,.m 74 13,.m 75 14,.m 76 7,.m 77 9,.m 78 0,.ls 79 78,.build (some 80) [(.int .i64 0),(.str []),(.int .i64 0),(.int .i64 0),(.int .i64 0)] [(0,1,(.t 74)),(1,1,(.t 75)),(2,1,(.t 76)),(3,1,(.t 77)),(4,1,(.t 79))],.mkl (some 81) 5 [.t 80],.app 82 (T 14) 5 (.t 73) (.t 81),.m 6 82])
 (.skip)) <|
 .o [.m 83 9,.m 7 83]) <|
 .seq (.n [.m 84 6,.ll 85 84,.mov (some 86) (.i 0)] <|
 .block 4 <|
 .loop <|
 .n [.b 87 .lss 86 85] <|
 .seq (.cond (.t 87)
 (.skip)
 (.exit 4)) <|
 .seq (.block 5 <|
 .n [.m 88 86,.m 16 88] <|
 .n [.m 89 16,.bi 90 .add 89 1,.m 17 90] <|
 .block 6 <|
 .loop <|
 .seq (.n [.m 91 17,.m 92 6,.ll 93 92,.b 94 .lss 91 93] <|
 .cond (.t 94)
 (.skip)
 (.exit 6)) <|
 .seq (.block 7 <|
 .seq (.p [.m 97 6,.m 98 17,.ia 99 5 97 98,.f 100 0 99,.l 101 100,.m 102 6,.m 103 16,.ia 104 5 102 103,.f 105 0 104,.l 106 105,.b 107 .leq 101 106]) <|
 .cond (.t 107)
 (.n [.m 108 6,.m 109 16,.m 110 6,.m 111 17,.ia 112 5 110 111,.f 113 2 112,.l 114 113,.ia 115 5 108 109,.f 116 4 115,.store 1 (.t 116) (.t 114)] <|
 .exit 6)
 (.skip)) <|
 .o [.m 95 17,.bi 96 .add 95 1,.m 17 96]) <|
 .o [.bi 117 .add 86 1,.m 86 117]) <|
 .n [.m 118 6,.m 2 118,.mov (some 3) (.i 0)] <|
 .ret
abbrev Is124 (P:Program) (F T:Nat→Nat):Prop:=Fn P (F 124) 119 [(2,none),(3,none)] (c124 F T)
def c137 (F T:Nat→Nat):C :=
 .n [.mov (some 2) (.i 0),.mov (some 3) (.s []),.mov (some 4) (.k (.bool false))] <|
 .n [.m 9 0,.c 10 (F 143) [.t 9,.s [32,9]],.m 0 10] <|
 .n [.m 11 0,.ls 12 11,.m 13 0,.c 14 (F 144) [.t 13,.s [61]],.ls 15 14,.b 16 .sub 12 15,.m 5 16] <|
 .n [.m 17 0,.ls 18 17,.m 19 0,.c 20 (F 143) [.t 19,.s [61]],.ls 21 20,.b 22 .sub 18 21,.m 6 22] <|
 .seq (.seq (.ops false [⟨none,[.m 23 5,.bi 24 .eql 23 0,.m 25 24]⟩,
 ⟨some (25,false),[.m 26 6,.bi 27 .eql 26 0]⟩,
 ⟨none,[.pt 28 25 27,.m 29 28]⟩,
 ⟨some (29,false),[.m 30 5,.m 31 0,.ls 32 31,.b 33 .eql 30 32]⟩,
 ⟨none,[.pt 34 29 33]⟩]) <|
 .cond (.t 34)
 (.n [.mov (some 2) (.i 0),.mov (some 3) (.s []),.mov (some 4) (.k (.bool false))] <|
 .ret)
 (.skip)) <|
 .n [.m 35 5,.m 36 6,.mx3 (some 37) false (.i 6) (.t 35) (.t 36),.m 7 37] <|
 .n [.m 38 0,.m 39 7,.m 40 0,.ls 41 40,.m 42 7,.b 43 .sub 41 42,.slcS (some 44) (.t 38) (some (.t 39)) (some (.t 43)),.c 45 (F 140) [.t 44,.s [32,9]],.m 8 45] <|
 .n [.m 46 7,.m 47 8,.m 48 8,.bin (some 49) .neq (.t 48) (.s []),.m 2 46,.m 3 47,.m 4 49] <|
 .ret
abbrev Is137 (P:Program) (F T:Nat→Nat):Prop:=Fn P (F 137) 50 [(2,none),(3,none),(4,none)] (c137 F T)
def c138 (F T:Nat→Nat):C :=
 .n [.mov (some 2) (.s [])] <|
 .seq (.block 0 <|
 .loop <|
 .seq (.seq (.ops false [⟨none,[.m 3 0,.ls 4 3,.bi 5 .gtr 4 0,.m 6 5]⟩,
 ⟨some (6,true),[.m 7 0,.m 8 0,.ls 9 8,.bi 10 .sub 9 1,.ix 11 7 10,.bin (some 12) .eql (.t 11) (.k (.int .u8 9)),.m 13 12]⟩,
 ⟨some (13,false),[.m 14 0,.m 15 0,.ls 16 15,.bi 17 .sub 16 1,.ix 18 14 17,.bin (some 19) .eql (.t 18) (.k (.int .u8 32))]⟩,
 ⟨some (6,true),[.pt 20 13 19]⟩,
 ⟨none,[.pf 21 6 20]⟩]) <|
 .cond (.t 21)
 (.skip)
 (.exit 0)) <|
 .block 1 <|
 .o [.m 22 0,.m 23 0,.ls 24 23,.bi 25 .sub 24 1,.slcS (some 26) (.t 22) none (some (.t 25)),.m 0 26]) <|
 .n [.m 27 0,.m 2 27] <|
 .ret
abbrev Is138 (P:Program) (F T:Nat→Nat):Prop:=Fn P (F 138) 28 [(2,none)] (c138 F T)
def c139 (F T:Nat→Nat):C :=
 .n [.mov (some 4) (.k (.bool false))] <|
 .seq (.n [.m 6 0,.ll 7 6,.m 8 1,.ll 9 8,.b 10 .neq 7 9] <|
 .cond (.t 10)
 (.n [.mov (some 4) (.k (.bool false))] <|
 .ret)
 (.skip)) <|
 .seq (.n [.mov (some 5) (.i 0)] <|
 .block 0 <|
 .loop <|
 .seq (.n [.m 11 5,.m 12 0,.ll 13 12,.b 14 .lss 11 13] <|
 .cond (.t 14)
 (.skip)
 (.exit 0)) <|
 .seq (.block 1 <|
 .seq (.p [.m 17 0,.m 18 5,.ia 19 5 17 18,.load (some 20) false 5 true (.t 19),.m 21 1,.m 22 5,.ia 23 5 21 22,.load (some 24) false 5 true (.t 23),.eqA (some 25) true [0,1,0,0,0] (.t 20) (.t 24)]) <|
 .cond (.t 25)
 (.n [.mov (some 4) (.k (.bool false))] <|
 .ret)
 (.skip)) <|
 .o [.m 15 5,.bi 16 .add 15 1,.m 5 16]) <|
 .n [.mov (some 4) (.k (.bool true))] <|
 .ret
abbrev Is139 (P:Program) (F T:Nat→Nat):Prop:=Fn P (F 139) 26 [(4,none)] (c139 F T)
end Go.Ab
namespace Go.Ab
variable {P:Program} {F T:Nat→Nat}
open Go.Lib
structure StrC0 (P:Program) (F:Nat→Nat):Prop where
 trim:∀ s:List UInt8,s.length≤9223372036854775807→PTr P (F 140) [.str s,.str [32,9]] (.str (trimS s wsp))
 right:∀ s cs:List UInt8,s.length≤100000→cs.length≤2→(∀ b,b∈cs→b.toNat<128)→PTr P (F 143) [.str s,.str cs] (.str (trimRightS s cs))
 left:∀ s cs:List UInt8,s.length≤100000→cs.length≤2→(∀ b,b∈cs→b.toNat<128)→PTr P (F 144) [.str s,.str cs] (.str (trimLeftS s cs))
 ib:∀ (s:List UInt8),PTr P (F 120) [.str s,.int .u8 10] (.int .i64 (indexByte s 10))
theorem right_le (s cs:List UInt8):(trimRightS s cs).length≤s.length:=by
 have:=(List.dropWhile_suffix (l:=s.reverse) (fun x=>cs.contains x)).length_le
 simp only [trimRightS,List.length_reverse] at this ⊢
 exact this
theorem dropW_run (c:UInt8):∀ s:List UInt8,(s.dropWhile ([c].contains ·)).length+runL c s=s.length
 | []=>rfl
 | x::r=>by
   have ih:=dropW_run c r
   by_cases h:x=c
   ·subst h
    simp [List.dropWhile,runL] at ih ⊢
    omega
   ·have h2:([c].contains x)=false:=by simp [h]
    simp [List.dropWhile,runL,h,h2]
theorem left_len (c:UInt8) (s:List UInt8):(trimLeftS s [c]).length+runL c s=s.length:=dropW_run c s
theorem right_len (c:UInt8) (s:List UInt8):(trimRightS s [c]).length+runL c s.reverse=s.length:=by
 have:=dropW_run c s.reverse
 simp only [trimRightS,List.length_reverse] at this ⊢
 exact this
theorem runL_le2 (c:UInt8) (s:List UInt8):runL c s≤s.length:=by have:=dropW_run c s; omega
theorem runL_stop {c x:UInt8} (hx:x≠c):∀ (u v:List UInt8),runL c (u++x::v)≤u.length
 | [],v=>by simp [runL,hx]
 | y::u,v=>by
   have ih:=runL_stop hx u v
   simp only [List.cons_append,runL,List.length_cons]
   split <;> omega
theorem runL_split {c:UInt8}:∀ {s:List UInt8},runL c s<s.length→∃ u x v,s=u++x::v∧x≠c∧u.length=runL c s
 | [],h=>by simp [runL] at h
 | y::s,h=>by
   by_cases hy:y=c
   ·subst hy
    have e:runL y (y::s)=runL y s+1:=by simp [runL]
    rw [e] at h ⊢
    obtain ⟨u,x,v,rfl,hx,hu⟩:=runL_split (c:=y) (s:=s) (by simpa using h)
    exact ⟨y::u,x,v,rfl,hx,by simp [hu]⟩
   ·exact ⟨[],y,s,rfl,hy,by simp [runL,hy]⟩
theorem runL_ends {c:UInt8} {s:List UInt8} (h:runL c s<s.length):runL c s+runL c s.reverse<s.length:=by
 obtain ⟨u,x,v,rfl,hx,hu⟩:=runL_split h
 have:=runL_stop hx v.reverse u.reverse
 have e:(u++x::v).reverse=v.reverse++x::u.reverse:=by simp
 rw [e]
 simp at this ⊢
 omega
theorem wsp_mem (x:UInt8):wsp.contains x=true↔(x.toNat=9∨x.toNat=32):=by
 have h:∀ n:Nat,n<256→(x.toNat=n↔x=UInt8.ofNat n):=fun n hn=>⟨fun e=>by rw [← e]; simp,fun e=>by rw [e]; simp; omega⟩
 rw [h 9 (by omega),h 32 (by omega)]
 simp only [wsp,List.contains_cons,List.contains_nil,Bool.or_false,Bool.or_eq_true,beq_iff_eq]
 exact or_comm
theorem right_step {s:List UInt8} (h:0<s.length):trimRightS s wsp=if (s.getD (s.length-1) 0).toNat=9∨(s.getD (s.length-1) 0).toNat=32 then trimRightS (s.take (s.length-1)) wsp else s:=by
 obtain ⟨u,x,rfl⟩:∃ u x,s=u++[x]:=by
  rcases List.eq_nil_or_concat s with rfl | ⟨u,x,rfl⟩
  ·simp at h
  ·exact ⟨u,x,by simp⟩
 have e1:(u++[x]).getD ((u++[x]).length-1) 0=x:=by simp
 have e2:(u++[x]).take ((u++[x]).length-1)=u:=by simp
 rw [e1,e2]
 by_cases hx:wsp.contains x=true
 ·rw [if_pos ((wsp_mem x).1 hx)]
  simp only [trimRightS,List.reverse_append,List.reverse_cons,List.reverse_nil,List.nil_append,List.cons_append,List.dropWhile,hx]
 ·rw [if_neg (fun q=>hx ((wsp_mem x).2 q))]
  have hx':wsp.contains x=false:=by simpa using hx
  simp only [trimRightS,List.reverse_append,List.reverse_cons,List.reverse_nil,List.nil_append,List.cons_append,List.dropWhile,hx',List.reverse_reverse]
theorem t138 (hf:Is138 P F T) (s:List UInt8) (hs:s.length≤9223372036854775807):PTr P (F 138) [.str s] (.str (trimRightS s wsp)):=by
 refine ptrC [] hf (by simp) rfl ?_
 simp only [c138,push_cast,seval,-Nat.reducePow]
 refine loopK_intro (fun m s1=>∃ t,m=t.length∧t.length≤9223372036854775807∧trimRightS t wsp=trimRightS s wsp∧s1.env 0=.str t) s.length ⟨s,?_⟩ fun m s1 hJ=>?_
 ·simp only [push_cast,seval,-Nat.reducePow]
  exact hs
 ·obtain ⟨t,rfl,hl,ht,j0⟩:=hJ
  by_cases h0:0<t.length
  ·have h0':(0:Int)<(t.length:Nat):=by omega
   have hst:=right_step h0
   have e1:(((t.length:Nat):Int)-1).toNat=t.length-1:=by omega
   have e2:(t.take (t.length-1)).length=t.length-1:=by rw [List.length_take]; omega
   obtain ⟨x,hx⟩:∃ x,t.getD (t.length-1) 0=x:=⟨_,rfl⟩
   rw [hx] at hst
   by_cases h9:x.toNat=9
   ·have h9':((x.toNat:Nat):Int)=9:=by omega
    rw [if_pos (.inl h9)] at hst
    simp only [push_cast,seval,-Nat.reducePow,j0,h0',e1,hx,h9']
    repeat refine And.intro (by omega) ?_
    exact ⟨t.length-1,by omega,t.take (t.length-1),e2.symm,by omega,by rw [← hst]; exact ht,rfl⟩
   ·have h9':¬ ((x.toNat:Nat):Int)=9:=by omega
    by_cases h32:x.toNat=32
    ·have h32':((x.toNat:Nat):Int)=32:=by omega
     rw [if_pos (.inr h32)] at hst
     simp only [push_cast,seval,-Nat.reducePow,j0,h0',e1,hx,h9',h32']
     repeat refine And.intro (by omega) ?_
     exact ⟨t.length-1,by omega,t.take (t.length-1),e2.symm,by omega,by rw [← hst]; exact ht,rfl⟩
    ·have h32':¬ ((x.toNat:Nat):Int)=32:=by omega
     rw [if_neg (by omega)] at hst
     simp only [push_cast,seval,-Nat.reducePow,j0,h0',e1,hx,h9',h32']
     repeat refine And.intro (by omega) ?_
     rw [← ht,hst]; rfl
  ·have h0':¬ (0:Int)<(t.length:Nat):=by omega
   have:t=[]:=List.eq_nil_of_length_eq_zero (by omega)
   subst this
   simp only [push_cast,seval,-Nat.reducePow,j0]
   rw [← ht]; rfl
end Go.Ab
namespace Go.Ab
variable {P:Program} {F T:Nat→Nat}
open Go.Lib
def hdT (s:List UInt8):List UInt8:=trimRightS s wsp
def hdN (s:List UInt8):Nat:=min 6 (min (runL 61 (hdT s)) (runL 61 (hdT s).reverse))
def hdS (s:List UInt8):List UInt8:=trimS (((hdT s).take ((hdT s).length-hdN s)).drop (hdN s)) wsp
def hdBad (s:List UInt8):Prop:=runL 61 (hdT s)=0∨runL 61 (hdT s).reverse=0∨runL 61 (hdT s)=(hdT s).length
instance (s:List UInt8):Decidable (hdBad s):=by unfold hdBad; infer_instance
theorem headF_eq (s:List UInt8):headF s=if hdBad s then none else if hdS s=[] then none else some (hdN s,hdS s):=rfl
theorem hdT_le (s:List UInt8):(hdT s).length≤s.length:=right_le s wsp
theorem hdN_le {s:List UInt8} (h:¬ hdBad s):0<hdN s∧2*hdN s<(hdT s).length∧hdN s≤6:=by
 simp only [hdBad,not_or] at h
 have:=runL_le2 61 (hdT s)
 have:=runL_ends (c:=61) (s:=hdT s) (by omega)
 unfold hdN
 omega
def hdV (s:List UInt8):V:=if hdBad s then .tup [.int .i64 0,.str [],.bool false] else .tup [.int .i64 (hdN s),.str (hdS s),.bool (!decide (hdS s=[]))]
theorem t137 (hf:Is137 P F T) (S:StrC0 P F) (s:List UInt8) (hs:s.length≤100000):PTr P (F 137) [.str s] (hdV s):=by
 have hTl:=hdT_le s
 have e2:=left_len 61 (hdT s)
 have e3:=right_len 61 (hdT s)
 have imm:(hdV s).imm=true:=by unfold hdV; split <;> rfl
 refine ptrC [] hf (by simp) imm ?_
 have hT:trimRightS s wsp=hdT s:=rfl
 have c1:=S.right s wsp hs (by decide) (by decide)
 have c2:=S.left (hdT s) [61] (by omega) (by decide) (by decide)
 have c3:=S.right (hdT s) [61] (by omega) (by decide) (by decide)
 rw [hT] at c1
 have f1:(((hdT s).length:Nat):Int)-(((trimLeftS (hdT s) [61]).length:Nat):Int)=(runL 61 (hdT s):Nat):=by omega
 have f2:(((hdT s).length:Nat):Int)-(((trimRightS (hdT s) [61]).length:Nat):Int)=(runL 61 (hdT s).reverse:Nat):=by omega
 have f3:min (min 6 ((runL 61 (hdT s):Nat):Int)) ((runL 61 (hdT s).reverse:Nat):Int)=(hdN s:Nat):=by unfold hdN; omega
 have f4:(((hdT s).length:Nat):Int)-(hdN s:Nat)=(((hdT s).length-hdN s:Nat):Int)∨hdBad s:=by
  by_cases h:hdBad s
  ·exact .inr h
  ·have:=hdN_le h
   exact .inl (by omega)
 simp only [c137,push_cast,seval,-Nat.reducePow]
 refine callK_intro c1 (by simp only [push_cast,seval,-Nat.reducePow]) (by simp only [push_cast,seval,-Nat.reducePow]) ?_
 simp only [push_cast,seval,-Nat.reducePow]
 refine callK_intro c2 (by simp only [push_cast,seval,-Nat.reducePow]) (by simp only [push_cast,seval,-Nat.reducePow]) ?_
 simp only [push_cast,seval,-Nat.reducePow]
 repeat refine And.intro (by omega) ?_
 refine callK_intro c3 (by simp only [push_cast,seval,-Nat.reducePow]) (by simp only [push_cast,seval,-Nat.reducePow]) ?_
 simp only [push_cast,seval,-Nat.reducePow,f1,f2]
 repeat refine And.intro (by omega) ?_
 by_cases h1:runL 61 (hdT s)=0
 ·have h1':((runL 61 (hdT s):Nat):Int)=0:=by omega
  have hb:hdBad s:=.inl h1
  simp only [push_cast,seval,-Nat.reducePow,f1,f2,h1',hdV,hb,view,if_true]
 ·have h1':¬ ((runL 61 (hdT s):Nat):Int)=0:=by omega
  by_cases h2:runL 61 (hdT s).reverse=0
  ·have h2':((runL 61 (hdT s).reverse:Nat):Int)=0:=by omega
   have hb:hdBad s:=.inr (.inl h2)
   simp only [push_cast,seval,-Nat.reducePow,f1,f2,h1',h2',hdV,hb,view,if_true]
  ·have h2':¬ ((runL 61 (hdT s).reverse:Nat):Int)=0:=by omega
   by_cases h3:runL 61 (hdT s)=(hdT s).length
   ·have h3':((runL 61 (hdT s):Nat):Int)=((hdT s).length:Nat):=by omega
    have hb:hdBad s:=.inr (.inr h3)
    have h4':¬ (((hdT s).length:Nat):Int)=0:=by omega
    simp only [push_cast,seval,-Nat.reducePow,f1,f2,h4',h2',h3',hdV,hb,view,if_true]
   ·have h3':¬ ((runL 61 (hdT s):Nat):Int)=((hdT s).length:Nat):=by omega
    have hb:¬ hdBad s:=by unfold hdBad; omega
    have f5:=f4.resolve_right hb
    obtain ⟨g1,g2,g3⟩:=hdN_le hb
    simp only [push_cast,seval,-Nat.reducePow,f1,f2,f3,f5,h1',h2',h3',mxI_min]
    repeat refine And.intro (by omega) ?_
    refine callK_intro (S.trim _ (by rw [List.length_drop,List.length_take]; omega)) (by simp only [push_cast,seval,-Nat.reducePow]) (by simp only [push_cast,seval,-Nat.reducePow]) ?_
    have hS:trimS (List.drop (hdN s) (List.take ((hdT s).length-hdN s) (hdT s))) wsp=hdS s:=rfl
    rw [hS]
    simp only [push_cast,seval,-Nat.reducePow,hdV,hb,view,if_false]
end Go.Ab
namespace Go.Ab
variable {P:Program} {F T:Nat→Nat}
def bls (l:List Bool):List V:=l.map .bool
theorem bls_len (l:List Bool):(bls l).length=l.length:=by simp [bls]
theorem bls_imm:∀ l:List Bool,V.imms (bls l)=true
 | []=>rfl
 | x::r=>by simp [bls,V.imms,V.imm]; exact bls_imm r
theorem bls_at (l:List Bool) {i:Nat} (h:i<l.length):(bls l).getD i .junk=.bool (l.getD i false):=by
 simp [bls,List.getD,h]
theorem view_own2 {L:Heap} {i ty z sz n:Nat} {k:IntKind} {m:Int} {es:List V} (h:L i=some (.vec ty z es)) (hi:V.imms es=true) (hn:n=es.length):view L 3 (.tup [.own i sz 0 n,.int k m])=.tup [.lst sz es,.int k m]:=by
 subst hn
 have:=view2_own (sz:=sz) h hi
 simp only [view,List.map_cons,List.map_nil] at this ⊢
 rw [this]
end Go.Ab
namespace Go.Ab
variable {P:Program} {F T:Nat→Nat}
open Go.Lib
theorem secV_len (l:List Sec):(secV l).length=l.length:=by simp [secV]
theorem secV_imm:∀ l:List Sec,V.imms (secV l)=true
 | []=>rfl
 | x::r=>by simp [secV,V.imms,V.imm,Sec.v]; exact secV_imm r
theorem secV_snoc (l:List Sec) (x:Sec):secV l++[x.v]=secV (l++[x]):=by simp [secV]
theorem secV_at (d:List Sec) (x:Sec) (r:List Sec):(secV (d++x::r)).getD d.length .junk=x.v:=by
 simp [secV,List.getD]
theorem secV_set (d:List Sec) (x y:Sec) (r:List Sec):(secV (d++x::r)).set d.length y.v=secV (d++y::r):=by
 simp only [secV,List.map_append,List.map_cons]
 rw [List.set_append_right _ _ (by simp)]
 simp
theorem line_ix:∀ s:List UInt8,indexByte s 10=if lineL s<s.length then (lineL s:Int) else -1
 | []=>rfl
 | x::r=>by
   have ih:=line_ix r
   by_cases hx:x=10
   ·subst hx
    simp [indexByte,lineL]
   ·have e:lineL (x::r)=lineL r+1:=by simp [lineL,hx]
    have hx':(x==10)=false:=by simpa using hx
    rw [e]
    simp only [indexByte,hx',List.length_cons,Bool.false_eq_true,if_false]
    rw [ih]
    by_cases h:lineL r<r.length
    ·have h2:lineL r+1<r.length+1:=by omega
     have h3:(((lineL r:Nat):Int)==-1)=false:=by rw [beq_eq_false_iff_ne]; omega
     simp only [h,h2,if_true,h3,Bool.false_eq_true,if_false]
     omega
    ·have h2:¬ lineL r+1<r.length+1:=by omega
     simp only [h,h2,if_false]
     rfl
def allP (p:List Bool) (i j:Nat):Bool:=((p.take j).drop i).all id
theorem allP_nil (p:List Bool) (i:Nat):allP p i i=true:=by simp [allP]
theorem allP_step (p:List Bool) {i j:Nat} (hi:i≤j) (hj:j<p.length):allP p i (j+1)=(allP p i j&&p.getD j false):=by
 simp only [allP]
 rw [List.take_succ_eq_append_getElem hj,List.drop_append_of_le_length (by simp; omega),List.all_append]
 simp [List.getD,hj]
theorem rawF_step (s:List UInt8) (p:List Bool) {i:Nat} (h:i<s.length):rawF s p (s.length+1) i=secAt s p i++rawF s p (s.length+1) (min (lineE s i+1) s.length):=by
 have:=lineE_le (s:=s) (i:=i) (by omega)
 conv=>lhs; rw [rawF]
 rw [if_pos h,rawF_fuel s p s.length (s.length+1) _ (by omega) (by omega)]
theorem rawF_end (s:List UInt8) (p:List Bool) (n:Nat) {i:Nat} (h:s.length≤i):rawF s p n i=[]:=by
 cases n with
 | zero=>rfl
 | succ n=>rw [rawF,if_neg (by omega)]
def endS (x:Sec) (n:Nat):Sec:={ x with to:=n }
theorem toOf_none {x:Sec} {q:List Sec} (h:∀ y,y∈q→x.lev<y.lev):toOf x q=x:=by
 have:q.find? (fun y=>decide (y.lev≤x.lev))=none:=by
  rw [List.find?_eq_none]
  intro y hy
  have:=h y hy
  simp; omega
 simp [toOf,this]
theorem toOf_some {x y:Sec} {u v:List Sec} (h:∀ y,y∈u→x.lev<y.lev) (hy:y.lev≤x.lev):toOf x (u++y::v)=endS x y.fr:=by
 have:(u++y::v).find? (fun y=>decide (y.lev≤x.lev))=some y:=by
  rw [List.find?_append]
  have:u.find? (fun y=>decide (y.lev≤x.lev))=none:=by
   rw [List.find?_eq_none]
   intro y hy
   have:=h y hy
   simp; omega
  rw [this]
  simp [hy]
 simp [toOf,this,endS]
theorem line_len {s:List UInt8} {i:Nat} (h:i≤s.length):(s.drop i).length=s.length-i:=List.length_drop
def hdOk (s:List UInt8):Bool:=!decide (hdBad s)&&!decide (hdS s=[])
theorem secAt_eq (s:List UInt8) (p:List Bool) (i:Nat):secAt s p i =
 if (hdOk ((s.take (lineE s i)).drop i)&&allP p i (lineE s i))=true then [⟨hdN ((s.take (lineE s i)).drop i),hdS ((s.take (lineE s i)).drop i),i,min (lineE s i+1) s.length,s.length⟩] else []:=by
 simp only [secAt,headF_eq,hdOk,allP]
 by_cases h1:((p.take (lineE s i)).drop i).all id=true
 rotate_left
 ·simp [h1]
 ·by_cases h2:hdBad ((s.take (lineE s i)).drop i)
  ·simp [h2]
  ·by_cases h3:hdS ((s.take (lineE s i)).drop i)=[] <;> simp [h1,h2,h3]
theorem t124 (hf:Is124 P F T) (S:StrC0 P F) (h137:Is137 P F T) (s:List UInt8) (hs:s.length≤8192) (h136:PTr P (F 136) [.str s] (.tup [.lst 1 (bls (plainF (parseF s))),.int .i64 0])):PTr P (F 124) [.str s] (.tup [.lst 5 (secV (sectF s)),.int .i64 0]):=by
 obtain ⟨p,hp⟩:∃ p,p=plainF (parseF s):=⟨_,rfl⟩
 have hpl:p.length=s.length:=by rw [hp,plainF_len,srcs_parseF]
 have hsec:sectF s=toF (rawF s p (s.length+1) 0):=by rw [sectF,hp]
 have hcnt:=rawF_count s p (s.length+1) 0
 rw [← hp] at h136
 refine ptrC [] hf (by simp) (by simp [V.imm,V.imms,secV_imm]) ?_
 simp only [c124,push_cast,seval,-Nat.reducePow]
 refine callK_intro h136 (by simp only [push_cast,seval,-Nat.reducePow]) (by simp only [push_cast,seval,-Nat.reducePow,bls_imm]) ?_
 simp only [push_cast,seval,-Nat.reducePow]
 refine loopK_intro (fun m s1=>∃ a i id,rawF s p (s.length+1) 0=a++rawF s p (s.length+1) i∧m=s.length-i∧i≤s.length∧a.length≤i∧s1.env 0=.str s∧s1.env 4=.lst 1 (bls p)∧s1.env 7=.int .i64 i∧s1.env 6=.own id 5 0 a.length∧s1.L id=some (.vec (T 14) 5 (secV a))∧id<s1.nx) s.length ⟨[],0,476,?_⟩ fun m s1 hJ=>?_
 ·simp only [push_cast,seval,-Nat.reducePow]
  exact ⟨by omega,rfl⟩
 ·obtain ⟨a,i,id,hra,rfl,hi,hal,j0,j4,j7,j6,jL,hid⟩:=hJ
  by_cases hlt:i<s.length
  ·have hlt':((i:Nat):Int)<((s.length:Nat):Int):=by omega
   have hle:=lineE_le (s:=s) (i:=i) hi
   rw [rawF_step s p hlt] at hra
   have hib:=S.ib (s.drop i)
   rw [line_ix,line_len hi] at hib
   have hsq:=secAt_eq s p i
   have hEd:lineE s i=i+lineL (s.drop i):=rfl
   generalize lineE s i=E at *
   obtain ⟨N,hN⟩:∃ N,N=min (E+1) s.length:=⟨_,rfl⟩
   rw [← hN] at hra hsq
   simp only [push_cast,seval,-Nat.reducePow,j0,j4,j7,j6,jL,hlt',List.take_length]
   refine cutK_intro (fun s2=>s2.env 0=.str s∧s2.env 4=.lst 1 (bls p)∧s2.env 7=.int .i64 i∧s2.env 6=.own id 5 0 a.length∧s2.L id=some (.vec (T 14) 5 (secV a))∧id<s2.nx∧s2.env 8=.int .i64 E∧s2.env 9=.int .i64 N) ?_ ?_
   ·simp only [push_cast,seval,-Nat.reducePow,j0,j4,j7,j6,jL,List.take_length]
    repeat refine And.intro (by omega) ?_
    by_cases hl:lineL (s.drop i)<s.length-i
    ·rw [if_pos hl] at hib
     have hl0:(0:Int)≤((lineL (s.drop i):Nat):Int):=by omega
     have e1:((i:Nat):Int)+((lineL (s.drop i):Nat):Int)=(E:Nat):=by omega
     have e2:((E:Nat):Int)+1=(N:Nat):=by omega
     refine callK_intro hib (by simp only [push_cast,seval,-Nat.reducePow]) (by simp only [push_cast,seval,-Nat.reducePow]) ?_
     simp only [push_cast,seval,-Nat.reducePow,j0,j4,j7,j6,jL,hl0,e1,e2]
     omega
    ·rw [if_neg hl] at hib
     have hle2:=lineL_le (s.drop i)
     rw [line_len hi] at hle2
     obtain rfl:E=s.length:=by omega
     obtain rfl:N=s.length:=by omega
     refine callK_intro hib (by simp only [push_cast,seval,-Nat.reducePow]) (by simp only [push_cast,seval,-Nat.reducePow]) ?_
     simp only [push_cast,seval,-Nat.reducePow,j0,j4,j7,j6,jL]
     omega
   ·rintro s2 ⟨k0,k4,k7,k6,kL,kid,k8,k9⟩
    simp only [push_cast,seval,-Nat.reducePow,k0,k4,k7,k6,kL,k8,k9]
    refine loopK_intro (fun m s3=>∃ j,i≤j∧j≤E∧m=E-j∧s3.env 0=.str s∧s3.env 4=.lst 1 (bls p)∧s3.env 7=.int .i64 i∧s3.env 6=.own id 5 0 a.length∧s3.L id=some (.vec (T 14) 5 (secV a))∧id<s3.nx∧s3.env 8=.int .i64 (E)∧s3.env 9=.int .i64 N∧s3.env 12=.int .i64 j∧s3.env 11=.bool (allP p i j)) (E-i) ⟨i,?_⟩ fun m s3 hJ=>?_
    ·simp only [push_cast,seval,-Nat.reducePow,k0,k4,k7,k6,kL,k8,k9,allP_nil]
     omega
    ·obtain ⟨j,hij,hje,rfl,g0,g4,g7,g6,gL,gid,g8,g9,g12,g11⟩:=hJ
     by_cases hj:j<E
     ·have hj':((j:Nat):Int)<((E:Nat):Int):=by omega
      have hjp:j<p.length:=by omega
      have hat:=bls_at p hjp
      have hjb:j<(bls p).length:=by rw [bls_len]; exact hjp
      have hst:=allP_step p hij hjp
      cases hb:allP p i j with
      | true =>
        rw [hb,Bool.true_and] at hst
        rw [hb] at g11
        simp only [push_cast,seval,-Nat.reducePow,g0,g4,g7,g6,gL,g8,g9,g12,g11,hj',hat]
        exact ⟨hjb,by omega,E-(j+1),by omega,j+1,by omega,by omega,rfl,by omega,by simp,by rw [hst]⟩
      | false =>
        rw [hb,Bool.false_and] at hst
        rw [hb] at g11
        simp only [push_cast,seval,-Nat.reducePow,g0,g4,g7,g6,gL,g8,g9,g12,g11,hj']
        exact ⟨by omega,E-(j+1),by omega,j+1,by omega,by omega,rfl,by omega,by simp,by rw [hst]⟩
     ·have hj':¬ ((j:Nat):Int)<((E:Nat):Int):=by omega
      obtain rfl:E=j:=by omega
      simp only [push_cast,seval,-Nat.reducePow,g0,g4,g7,g6,gL,g8,g9,g12,g11,hj']
      refine cutK_intro (fun s4=>∃ id2,s4.env 0=.str s∧s4.env 4=.lst 1 (bls p)∧s4.env 9=.int .i64 N∧s4.env 6=.own id2 5 0 (a++secAt s p i).length∧s4.L id2=some (.vec (T 14) 5 (secV (a++secAt s p i)))∧id2<s4.nx) ?_ ?_
      ·have hcal:=t137 h137 S ((s.take E).drop i) (by rw [List.length_drop,List.length_take]; omega)
       have himm:(hdV ((s.take E).drop i)).imm=true:=by unfold hdV; split <;> rfl
       have htk:List.take a.length (secV a)=secV a:=List.take_of_length_le (by rw [secV_len]; omega)
       have htl:((a.length:Nat):Int)=((secV a).length:Nat):=by rw [secV_len]
       simp only [push_cast,seval,-Nat.reducePow,g0,g4,g7,g6,gL,g8,g9,g12,g11]
       repeat refine And.intro (by omega) ?_
       refine callK_intro hcal (by simp only [push_cast,seval,-Nat.reducePow]) himm ?_
       generalize (s.take E).drop i=ln at *
       simp only [hdV] at himm ⊢
       by_cases hbad:hdBad ln
       ·have hs0:secAt s p i=[]:=by rw [hsq]; simp [hdOk,hbad]
        rw [if_pos hbad,hs0,List.append_nil]
        simp only [push_cast,seval,-Nat.reducePow,g0,g4,g7,g6,gL,g8,g9,g12,g11]
        exact ⟨id,rfl,gL,by omega⟩
       ·rw [if_neg hbad]
        by_cases hem:hdS ln=[]
        ·have hs0:secAt s p i=[]:=by rw [hsq]; simp [hdOk,hbad,hem]
         rw [hs0,List.append_nil]
         simp only [push_cast,seval,-Nat.reducePow,g0,g4,g7,g6,gL,g8,g9,g12,g11,hem]
         exact ⟨id,rfl,gL,by omega⟩
        ·cases hall:allP p i E with
         | false =>
           have hs0:secAt s p i=[]:=by rw [hsq]; simp [hdOk,hbad,hem,hall]
           rw [hs0,List.append_nil]
           rw [hall] at g11
           simp only [push_cast,seval,-Nat.reducePow,g0,g4,g7,g6,gL,g8,g9,g12,g11,hem]
           exact ⟨id,rfl,gL,by omega⟩
         | true =>
           have hs0:secAt s p i=[⟨hdN ln,hdS ln,i,N,s.length⟩]:=by rw [hsq]; simp [hdOk,hbad,hem,hall]
           have hsn:=secV_snoc a ⟨hdN ln,hdS ln,i,N,s.length⟩
           simp only [Sec.v] at hsn
           rw [hs0]
           rw [hall] at g11
           simp only [push_cast,seval,-Nat.reducePow,g0,g4,g7,g6,gL,g8,g9,g12,g11,hem,htk,hsn]
           exact ⟨by rw [secV_len]; omega,by omega,s3.nx+439,by simp,upd_same _ _ _,by omega⟩
      ·rintro s4 ⟨id2,m0,m4,m9,m6,mL,mid⟩
       simp only [push_cast,seval,-Nat.reducePow,m0,m4,m9,m6,mL]
       have hsl:(secAt s p i).length≤1:=by rw [hsq]; split <;> simp
       exact ⟨s.length-N,by omega,a++secAt s p i,N,id2,by rw [hra,List.append_assoc],rfl,by omega,by rw [List.length_append]; omega,rfl,rfl,mL,by omega⟩
  ·have hlt':¬ ((i:Nat):Int)<((s.length:Nat):Int):=by omega
   obtain rfl:i=s.length:=by omega
   rw [rawF_end s p _ (Nat.le_refl _),List.append_nil] at hra
   simp only [push_cast,seval,-Nat.reducePow,j0,j4,j7,j6,jL,hlt']
   refine loopK_intro (fun m s2=>∃ d r id,toF a=d++toF r∧a.length=d.length+r.length∧m=r.length∧s2.env 85=.int .i64 a.length∧s2.env 86=.int .i64 d.length∧s2.env 6=.own id 5 0 a.length∧s2.L id=some (.vec (T 14) 5 (secV (d++r)))∧id<s2.nx) a.length ⟨[],a,id,?_⟩ fun m s2 hJ=>?_
   ·simp only [push_cast,seval,-Nat.reducePow,j0,j4,j7,j6,jL]
    omega
   ·obtain ⟨d,r,id,htf,hlen,rfl,k5,k6,k7,kL,kid⟩:=hJ
    cases r with
    | nil =>
      have hd:¬ ((d.length:Nat):Int)<((a.length:Nat):Int):=by simp at hlen; omega
      simp only [push_cast,seval,-Nat.reducePow,k5,k6,k7,kL,hd]
      rw [hsec,hra,htf]
      simp only [toF]
      exact view_own2 kL (secV_imm _) (by rw [secV_len,List.length_append,hlen])
    | cons x q =>
      have hd:((d.length:Nat):Int)<((a.length:Nat):Int):=by simp at hlen; omega
      simp only [List.length_cons] at hlen
      simp only [push_cast,seval,-Nat.reducePow,k5,k6,k7,kL,hd]
      repeat refine And.intro (by omega) ?_
      refine loopK_intro (fun m s3=>∃ u v,q=u++v∧(∀ y,y∈u→x.lev<y.lev)∧m=v.length∧s3.env 85=.int .i64 a.length∧s3.env 86=.int .i64 d.length∧s3.env 16=.int .i64 d.length∧s3.env 17=.int .i64 (d.length+1+u.length:Nat)∧s3.env 6=.own id 5 0 a.length∧s3.L id=some (.vec (T 14) 5 (secV (d++x::q)))∧id<s3.nx) q.length ⟨[],q,?_⟩ fun m s3 hJ=>?_
      ·simp only [push_cast,seval,-Nat.reducePow,k5,k6,k7,kL]
       omega
      ·obtain ⟨u,v,rfl,hu,rfl,g5,g6,g16,g17,g7,gL,gid⟩:=hJ
       have hx:=secV_at d x (u++v)
       generalize hK:d.length+1+u.length=K at *
       simp only [List.length_append] at hlen
       cases v with
       | nil =>
         have hk:¬ ((K:Nat):Int)<((a.length:Nat):Int):=by simp at hlen; omega
         simp only [push_cast,seval,-Nat.reducePow,g5,g6,g16,g17,g7,gL,hk]
         have htn:=toOf_none (x:=x) (q:=u) hu
         simp only [List.append_nil] at htf gL ⊢
         refine ⟨by omega,u.length,by omega,d++[x],u,id,?_,by simp; omega,rfl,by simp,rfl,by simpa using gL,by omega⟩
         rw [htf]; simp [toF,htn]
       | cons y v =>
         have hk:((K:Nat):Int)<((a.length:Nat):Int):=by simp at hlen; omega
         have hy:(secV (d++x::(u++y::v))).getD K .junk=y.v:=by
          have:=secV_at (d++x::u) y v
          rw [show (d++x::u).length=K by simp; omega] at this
          simpa using this
         by_cases hyx:y.lev≤x.lev
         ·have hyx':((y.lev:Nat):Int)≤((x.lev:Nat):Int):=by omega
          simp only [push_cast,seval,-Nat.reducePow,g5,g6,g16,g17,g7,gL,hk,hx,hy,Sec.v,hyx']
          have hls:(secV (d++x::(u++y::v))).length=d.length+(u.length+(v.length+1)+1):=by rw [secV_len]; simp
          have hse:=secV_set d x (endS x y.fr) (u++y::v)
          have hts:=toOf_some (x:=x) (y:=y) (u:=u) (v:=v) hu hyx
          simp only [Sec.v,endS] at hse hts
          refine ⟨by omega,by omega,by omega,by omega,by omega,by omega,by omega,by omega,by omega,(u++y::v).length,Nat.lt_succ_self _,d++[toOf x (u++y::v)],u++y::v,id,?_,by simp at hlen ⊢; omega,rfl,by simp,rfl,?_,by omega⟩
          ·rw [htf]; simp [toF]
          ·rw [upd_same,hse,hts]; simp
         ·have hyx':¬ ((y.lev:Nat):Int)≤((x.lev:Nat):Int):=by omega
          simp only [push_cast,seval,-Nat.reducePow,g5,g6,g16,g17,g7,gL,hk,hx,hy,Sec.v,hyx']
          have hls:(secV (d++x::(u++y::v))).length=d.length+(u.length+(v.length+1)+1):=by rw [secV_len]; simp
          refine ⟨by omega,by omega,by omega,by omega,by omega,v.length,by omega,u++[y],v,by simp,?_,rfl,?_,by omega⟩
          ·intro z hz
           rw [List.mem_append,List.mem_singleton] at hz
           rcases hz with hz | rfl
           ·exact hu z hz
           ·omega
          ·simp; omega
end Go.Ab
namespace Go.Ab
variable {P:Program} {F T:Nat→Nat}
open Go.Lib
theorem t139 (hf:Is139 P F T) (l:List Sec) (hl:l.length≤100000):PTr P (F 139) [.lst 5 (secV l),.lst 5 (secV l)] (.bool true):=by
 refine ptrC [] hf (by simp [secV_imm]) rfl ?_
 have hlen:=secV_len l
 simp only [c139,push_cast,seval,-Nat.reducePow]
 refine loopK_intro (fun m s1=>∃ i,i≤l.length∧m=l.length-i∧s1.env 0=.lst 5 (secV l)∧s1.env 1=.lst 5 (secV l)∧s1.env 5=.int .i64 i) l.length ⟨0,?_⟩ fun m s1 hJ=>?_
 ·simp only [push_cast,seval,-Nat.reducePow]
  omega
 ·obtain ⟨i,hi,rfl,j0,j1,j5⟩:=hJ
  by_cases h:i<l.length
  ·have h':((i:Nat):Int)<((secV l).length:Nat):=by omega
   have hx:(secV l).getD i .junk=(l[i]).v:=by simp [secV,List.getD,h]
   obtain ⟨lv,ti,fr,bd,to⟩:=l[i]
   simp only [Sec.v] at hx
   simp only [push_cast,seval,-Nat.reducePow,j0,j1,j5,h',hx]
   refine ⟨by omega,by omega,by omega,l.length-(i+1),by omega,i+1,by omega,rfl,by simp⟩
  ·have h':¬ ((i:Nat):Int)<((secV l).length:Nat):=by omega
   simp only [push_cast,seval,-Nat.reducePow,j0,j1,j5,h',view]
end Go.Ab
