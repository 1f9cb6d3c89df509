/- Several texts of one kind, merged. No condition. -/
import Derived.Test.YtjakkhalapaofaaGreatDoorAbZ1
set_option linter.unusedSimpArgs false
set_option linter.unusedVariables false
namespace Go.Ab
def c159 (F T:Nat→Nat):C :=
 .n [.mov (some 2) (.k .nils),.mov (some 3) (.i 0)] <|
 .n [.m 16 0,.c 17 (F 37) [.t 16],.m 15 17,.x 18 0 15,.x 19 1 15,.m 4 18,.m 5 19] <|
 .seq (.n [.m 20 5,.bi 21 .neq 20 0] <|
 .cond (.t 21)
 (.n [.m 22 5,.mov (some 2) (.k .nils),.m 3 22] <|
 .ret)
 (.skip)) <|
 .n [.m 23 4,.c 24 (F 168) [.t 23],.m 6 24] <|
 .seq (.gha (.own 7 (T 14) 5) <| .o [.mov (some 7) (.k .nils)]) <|
 .seq (.n [.mov (some 8) (.i 0)] <|
 .block 0 <|
 .loop <|
 .seq (.n [.m 25 8,.m 26 0,.ls 27 26,.b 28 .leq 25 27] <|
 .cond (.t 28)
 (.skip)
 (.exit 0)) <|
 .block 1 <|
 .n [.m 29 8,.m 9 29] <|
 .n [.mov (some 10) (.k (.bool true))] <|
 .seqc (.block 2 <|
 .loop <|
 .seq (.seq (.ops false [⟨none,[.m 30 9,.m 31 0,.ls 32 31,.b 33 .lss 30 32,.m 34 33]⟩,
 ⟨some (34,true),[.m 35 0,.m 36 9,.ix 37 35 36,.bin (some 38) .neq (.t 37) (.k (.int .u8 10))]⟩,
 ⟨none,[.pf 39 34 38]⟩]) <|
 .cond (.t 39)
 (.skip)
 (.exit 2)) <|
 .block 3 <|
 .seq (.ops false [⟨none,[.m 40 10,.m 41 40]⟩,
 ⟨some (41,true),[.m 42 6,.m 43 9,.ia 44 1 42 43,.l 45 44]⟩,
 ⟨none,[.pf 46 41 45,.m 10 46]⟩]) <|
 .o [.m 47 9,.bi 48 .add 47 1,.m 9 48]) <|
 .seqc (.n [.m 50 0,.m 51 8,.m 52 9,.slcS (some 53) (.t 50) (some (.t 51)) (some (.t 52)),.c 54 (F 169) [.t 53],.m 49 54,.x 55 0 49,.x 56 1 49,.m 11 55,.m 12 56] <|
 .seq (.ops false [⟨none,[.m 57 10,.m 58 57]⟩,
 ⟨some (58,true),[.m 59 11,.bi 60 .gtr 59 0]⟩,
 ⟨none,[.pf 61 58 60]⟩]) <|
 .cond (.t 61)
 (.o [.m 62 7,.m 63 11,.m 64 12,.m 65 8,.m 66 9,.bi 67 .add 66 1,.m 68 0,.ls 69 68,.mx (some 70) false (.t 67) (.t 69),.m 71 0,.ls 72 71,.build (some 73) [(.int .i64 0),(.str []),(.int .i64 0),(.int .i64 0),(.int .i64 0)] [(0,1,(.t 63)),(1,1,(.t 64)),(2,1,(.t 65)),(3,1,(.t 70)),(4,1,(.t 72))],.mkl (some 74) 5 [.t 73],.app 75 (T 14) 5 (.t 62) (.t 74),.m 7 75])
 (.skip)) <|
 .o [.m 76 9,.bi 77 .add 76 1,.m 8 77]) <|
 .seq (.n [.mov (some 13) (.i 0)] <|
 .block 4 <|
 .loop <|
 .seq (.n [.m 78 13,.m 79 7,.ll 80 79,.b 81 .lss 78 80] <|
 .cond (.t 81)
 (.skip)
 (.exit 4)) <|
 .seq (.block 5 <|
 .n [.m 84 7,.ll 85 84,.bi 86 .sub 85 1,.m 14 86] <|
 .block 6 <|
 .loop <|
 .seq (.n [.m 87 14,.m 88 13,.b 89 .gtr 87 88] <|
 .cond (.t 89)
 (.skip)
 (.exit 6)) <|
 .seq (.block 7 <|
 .seq (.p [.m 92 7,.m 93 14,.ia 94 5 92 93,.f 95 0 94,.l 96 95,.m 97 7,.m 98 13,.ia 99 5 97 98,.f 100 0 99,.l 101 100,.b 102 .leq 96 101]) <|
 .cond (.t 102)
 (.o [.m 103 7,.m 104 13,.m 105 7,.m 106 14,.ia 107 5 105 106,.f 108 2 107,.l 109 108,.ia 110 5 103 104,.f 111 4 110,.store 1 (.t 111) (.t 109)])
 (.skip)) <|
 .o [.m 90 14,.bi 91 .sub 90 1,.m 14 91]) <|
 .o [.m 82 13,.bi 83 .add 82 1,.m 13 83]) <|
 .n [.m 112 7,.m 2 112,.mov (some 3) (.i 0)] <|
 .ret
abbrev bLl (P:Program) (F T:Nat→Nat):Prop:=Fn P (F 159) 113 [(2,none),(3,none)] (c159 F T)
def c168 (F T:Nat→Nat):C :=
 .n [.mov (some 2) (.k .nils)] <|
 .seq (.gha (.own 3 (T 15) 1) <| .o [.mov (some 3) (.k .nils)]) <|
 .seq (.n [.mov (some 4) (.i 0)] <|
 .block 0 <|
 .loop <|
 .seq (.n [.m 7 4,.m 8 0,.ll 9 8,.b 10 .lss 7 9] <|
 .cond (.t 10)
 (.skip)
 (.exit 0)) <|
 .seq (.block 1 <|
 .n [.m 13 0,.m 14 4,.m 15 4,.bi 16 .add 15 1,.slc (some 17) 5 (.t 13) (some (.t 14)) (some (.t 16)),.c 18 (F 3) [.t 17],.ls 19 18,.m 5 19] <|
 .n [.mov (some 6) (.i 0)] <|
 .block 2 <|
 .loop <|
 .seq (.n [.m 20 6,.m 21 5,.b 22 .lss 20 21] <|
 .cond (.t 22)
 (.skip)
 (.exit 2)) <|
 .seq (.block 3 <|
 .o [.m 25 3,.m 26 0,.m 27 4,.ia 28 5 26 27,.f 29 0 28,.l 30 29,.bi 31 .eql 30 1,.mkl (some 32) 1 [.t 31],.app 33 (T 15) 1 (.t 25) (.t 32),.m 3 33]) <|
 .o [.m 23 6,.bi 24 .add 23 1,.m 6 24]) <|
 .o [.m 11 4,.bi 12 .add 11 1,.m 4 12]) <|
 .n [.m 34 3,.m 2 34] <|
 .ret
abbrev bJu (P:Program) (F T:Nat→Nat):Prop:=Fn P (F 168) 35 [(2,none)] (c168 F T)
def c169 (F T:Nat→Nat):C :=
 .n [.mov (some 2) (.i 0),.mov (some 3) (.s [])] <|
 .n [.m 8 0,.c 9 (F 138) [.t 8],.m 0 9] <|
 .n [.mov (some 4) (.i 0),.mov (some 5) (.i 0)] <|
 .seqc (.block 0 <|
 .loop <|
 .seq (.seq (.ops false [⟨none,[.m 10 4,.m 11 0,.ls 12 11,.b 13 .lss 10 12,.m 14 13]⟩,
 ⟨some (14,true),[.m 15 0,.m 16 4,.ix 17 15 16,.bin (some 18) .eql (.t 17) (.k (.int .u8 61))]⟩,
 ⟨none,[.pf 19 14 18]⟩]) <|
 .cond (.t 19)
 (.skip)
 (.exit 0)) <|
 .block 1 <|
 .o [.m 20 4,.bi 21 .add 20 1,.m 4 21]) <|
 .seqc (.block 2 <|
 .loop <|
 .seq (.seq (.ops false [⟨none,[.m 22 5,.m 23 0,.ls 24 23,.b 25 .lss 22 24,.m 26 25]⟩,
 ⟨some (26,true),[.m 27 0,.m 28 0,.ls 29 28,.bi 30 .sub 29 1,.m 31 5,.b 32 .sub 30 31,.ix 33 27 32,.bin (some 34) .eql (.t 33) (.k (.int .u8 61))]⟩,
 ⟨none,[.pf 35 26 34]⟩]) <|
 .cond (.t 35)
 (.skip)
 (.exit 2)) <|
 .block 3 <|
 .o [.m 36 5,.bi 37 .add 36 1,.m 5 37]) <|
 .seq (.seq (.ops false [⟨none,[.m 38 4,.bi 39 .eql 38 0,.m 40 39]⟩,
 ⟨some (40,false),[.m 41 5,.bi 42 .eql 41 0]⟩,
 ⟨none,[.pt 43 40 42,.m 44 43]⟩,
 ⟨some (44,false),[.m 45 4,.m 46 0,.ls 47 46,.b 48 .eql 45 47]⟩,
 ⟨none,[.pt 49 44 48]⟩]) <|
 .cond (.t 49)
 (.n [.mov (some 2) (.i 0),.mov (some 3) (.s [])] <|
 .ret)
 (.skip)) <|
 .n [.m 50 4,.m 51 5,.mx3 (some 52) false (.t 50) (.t 51) (.i 6),.m 6 52] <|
 .n [.m 53 0,.m 54 6,.m 55 0,.ls 56 55,.m 57 6,.b 58 .sub 56 57,.slcS (some 59) (.t 53) (some (.t 54)) (some (.t 58)),.c 60 (F 125) [.t 59],.m 7 60] <|
 .seq (.n [.m 61 7,.bin (some 62) .eql (.t 61) (.s [])] <|
 .cond (.t 62)
 (.n [.mov (some 2) (.i 0),.mov (some 3) (.s [])] <|
 .ret)
 (.skip)) <|
 .n [.m 63 6,.m 64 7,.m 2 63,.m 3 64] <|
 .ret
abbrev bJp (P:Program) (F T:Nat→Nat):Prop:=Fn P (F 169) 65 [(2,none),(3,none)] (c169 F T)
end Go.Ab
namespace Go.Ab
variable {P:Program} {F T:Nat→Nat}
open Go.Lib
theorem t169 (hf:bJp P F T) (h138:aYc P F T) (h125:bFp P F T) (s:List UInt8) (hs:s.length≤100000):PTr P (F 169) [.str s] (hdR s):=by
 have hTl:=bGj s
 have imm:(hdR s).imm=true:=by unfold hdR; split <;> rfl
 have c1:=t138 h138 s (by omega)
 have hT:trimRightS s wsp=hdT s:=rfl
 have hr1:=aOl 61 (hdT s)
 have hr2:=aSb 61 (hdT s)
 have f3:min (min ((runL 61 (hdT s):Nat):Int) ((runL 61 (hdT s).reverse:Nat):Int)) 6=(hdN s:Nat):=by unfold hdN; omega
 rw [hT] at c1
 refine ptrC [] hf (by simp) imm ?_
 simp only [c169,push_cast,seval,-Nat.reducePow]
 refine aAa c1 (by simp only [push_cast,seval,-Nat.reducePow]) (by simp only [push_cast,seval,-Nat.reducePow]) ?_
 simp only [push_cast,seval,-Nat.reducePow]
 refine aAw (fun s2=>s2.env 0=.str (hdT s)∧s2.env 4=.int .i64 (runL 61 (hdT s))∧s2.env 5=.int .i64 0) ?_ ?_
 ·simp only [push_cast,seval,-Nat.reducePow]
  refine aAg (fun m s1=>∃ a,a≤runL 61 (hdT s)∧m=runL 61 (hdT s)-a∧s1.env 0=.str (hdT s)∧s1.env 4=.int .i64 a∧s1.env 5=.int .i64 0) (runL 61 (hdT s)) ⟨0,?_⟩ fun m s1 hJ=>?_
  ·simp only [push_cast,seval,-Nat.reducePow]
   simp
  ·obtain ⟨a,ha,rfl,j0,j4,j5⟩:=hJ
   by_cases hal:a<(hdT s).length
   ·have hal':((a:Nat):Int)<((hdT s).length:Nat):=by omega
    have hat:=bFw ha hal
    by_cases h61:((hdT s).getD a 0).toNat=61
    ·have h61':((((hdT s).getD a 0).toNat:Nat):Int)=61:=by omega
     have:=hat.1 h61
     simp only [push_cast,seval,-Nat.reducePow,j0,j4,j5,hal',h61']
     exact ⟨by omega,by omega,runL 61 (hdT s)-(a+1),by omega,a+1,by omega,rfl,by simp⟩
    ·have h61':¬ ((((hdT s).getD a 0).toNat:Nat):Int)=61:=by omega
     have hae:runL 61 (hdT s)=a:=by
      rcases Nat.lt_or_ge a (runL 61 (hdT s)) with h | h
      ·exact absurd (hat.2 h) h61
      ·omega
     simp only [push_cast,seval,-Nat.reducePow,j0,j4,j5,hal',h61',hae]
     omega
   ·have hal':¬ ((a:Nat):Int)<((hdT s).length:Nat):=by omega
    have hae:runL 61 (hdT s)=a:=by omega
    simp only [push_cast,seval,-Nat.reducePow,j0,j4,j5,hal',hae]
 ·rintro s2 ⟨k0,k4,k5⟩
  simp only [push_cast,seval,-Nat.reducePow,k0,k4,k5]
  refine aAw (fun s2=>s2.env 0=.str (hdT s)∧s2.env 4=.int .i64 (runL 61 (hdT s))∧s2.env 5=.int .i64 (runL 61 (hdT s).reverse)) ?_ ?_
  ·simp only [push_cast,seval,-Nat.reducePow]
   refine aAg (fun m s1=>∃ a,a≤runL 61 (hdT s).reverse∧m=runL 61 (hdT s).reverse-a∧s1.env 0=.str (hdT s)∧s1.env 5=.int .i64 a∧s1.env 4=.int .i64 (runL 61 (hdT s))) (runL 61 (hdT s).reverse) ⟨0,?_⟩ fun m s1 hJ=>?_
   ·simp only [push_cast,seval,-Nat.reducePow,k0,k4,k5]
    simp
   ·obtain ⟨a,ha,rfl,j0,j5,j4⟩:=hJ
    by_cases hal:a<(hdT s).length
    ·have hal':((a:Nat):Int)<((hdT s).length:Nat):=by omega
     have hat:=bFw ha (by simpa using hal)
     rw [bGz hal] at hat
     have hix:(((hdT s).length:Nat):Int)-1-(a:Nat)=(((hdT s).length-1-a:Nat):Int):=by omega
     obtain ⟨I,hI⟩:∃ I,I=(hdT s).length-1-a:=⟨_,rfl⟩
     rw [← hI] at hix hat
     by_cases h61:((hdT s).getD I 0).toNat=61
     ·have h61':((((hdT s).getD I 0).toNat:Nat):Int)=61:=by omega
      have:=hat.1 h61
      simp only [push_cast,seval,-Nat.reducePow,j0,j4,j5,hal',hix,h61']
      exact ⟨by omega,by omega,by omega,by omega,runL 61 (hdT s).reverse-(a+1),by omega,a+1,by omega,rfl,by simp⟩
     ·have h61':¬ ((((hdT s).getD I 0).toNat:Nat):Int)=61:=by omega
      have hae:runL 61 (hdT s).reverse=a:=by
       rcases Nat.lt_or_ge a (runL 61 (hdT s).reverse) with h | h
       ·exact absurd (hat.2 h) h61
       ·omega
      simp only [push_cast,seval,-Nat.reducePow,j0,j4,j5,hal',hix,h61',hae]
      omega
    ·have hal':¬ ((a:Nat):Int)<((hdT s).length:Nat):=by omega
     have hae:runL 61 (hdT s).reverse=a:=by omega
     simp only [push_cast,seval,-Nat.reducePow,j0,j4,j5,hal',hae]
  ·rintro s3 ⟨k0,k4,k5⟩
   by_cases h1:runL 61 (hdT s)=0
   ·have h1':((runL 61 (hdT s):Nat):Int)=0:=by omega
    have hb:aD4 s:=.inl h1
    simp only [push_cast,seval,-Nat.reducePow,k0,k4,k5,h1',hdR,hb,view,if_true,true_or]
   ·have h1':¬ ((runL 61 (hdT s):Nat):Int)=0:=by omega
    by_cases h2:runL 61 (hdT s).reverse=0
    ·have h2':((runL 61 (hdT s).reverse:Nat):Int)=0:=by omega
     have hb:aD4 s:=.inr (.inl h2)
     simp only [push_cast,seval,-Nat.reducePow,k0,k4,k5,h1',h2',hdR,hb,view,if_true,true_or]
    ·have h2':¬ ((runL 61 (hdT s).reverse:Nat):Int)=0:=by omega
     by_cases h3:runL 61 (hdT s)=(hdT s).length
     ·have h3':((runL 61 (hdT s):Nat):Int)=((hdT s).length:Nat):=by omega
      have hb:aD4 s:=.inr (.inr h3)
      have h4':¬ (((hdT s).length:Nat):Int)=0:=by omega
      simp only [push_cast,seval,-Nat.reducePow,k0,k4,k5,h4',h2',h3',hdR,hb,view,if_true,true_or]
     ·have h3':¬ ((runL 61 (hdT s):Nat):Int)=((hdT s).length:Nat):=by omega
      have hb:¬ aD4 s:=by unfold aD4; omega
      obtain ⟨g1,g2,g3⟩:=aTi hb
      have f5:(((hdT s).length:Nat):Int)-(hdN s:Nat)=(((hdT s).length-hdN s:Nat):Int):=by omega
      have c2:=t125 h125 h138 (((hdT s).take ((hdT s).length-hdN s)).drop (hdN s)) (by rw [List.length_drop,List.length_take]; omega)
      have hS:trimS (List.drop (hdN s) (List.take ((hdT s).length-hdN s) (hdT s))) wsp=hdS s:=rfl
      rw [hS] at c2
      simp only [push_cast,seval,-Nat.reducePow,k0,k4,k5,f3,f5,h1',h2',h3',aK0]
      repeat refine And.intro (by omega) ?_
      refine aAa c2 (by simp only [push_cast,seval,-Nat.reducePow]) (by simp only [push_cast,seval,-Nat.reducePow]) ?_
      by_cases hem:hdS s=[]
      ·simp only [push_cast,seval,-Nat.reducePow,k0,k4,k5,hdR,hb,hem,view,or_true,if_true]
      ·simp only [push_cast,seval,-Nat.reducePow,k0,k4,k5,hdR,hb,hem,view,or_self,if_false]
theorem t168 (hf:bJu P F T) (h3:∀ l:List Node,aAv l≤2^26→PTr P (F 3) [.lst 5 (encs l)] (.str (srcs l))) (l:List Node) (hb:aAv l≤2^26) (hl:(srcs l).length≤100000) (hn:l.length≤1000000) :
 PTr P (F 168) [.lst 5 (encs l)] (.lst 1 (bls (aAt l))):=by
 refine ptrC [] hf (by simp [aAr]) (by simp [V.imm,aHj]) ?_
 simp only [c168,push_cast,seval,-Nat.reducePow]
 refine aAg (fun m s1=>∃ d r id,l=d++r∧m=r.length∧s1.env 0=.lst 5 (encs l)∧s1.env 4=.int .i64 d.length∧s1.env 3=.own id 1 0 (aAt d).length∧s1.L id=some (.vec (T 15) 1 (bls (aAt d)))∧id<s1.nx) l.length ⟨[],l,70,?_⟩ fun m s1 hJ=>?_
 ·simp only [push_cast,seval,-Nat.reducePow]
  exact ⟨rfl,rfl⟩
 ·obtain ⟨d,r,id,rfl,rfl,j0,j4,j3,jL,hid⟩:=hJ
  have hlen:=aA8 (d++r)
  cases r with
  | nil =>
    have h0:¬ ((d.length:Nat):Int)<(((encs (d++[])).length:Nat):Int):=by rw [aA8]; simp
    simp only [List.append_nil] at h0 j0 ⊢
    simp only [push_cast,seval,-Nat.reducePow,j0,j3,j4,jL,h0]
    exact bCb jL (aHj _) (aIp _).symm
  | cons x r =>
    have h0:((d.length:Nat):Int)<(((encs (d++x::r)).length:Nat):Int):=by rw [aA8]; simp; omega
    have hsl:=bCu d x r
    have he1:(((d.length:Nat):Int)+1).toNat=d.length+1:=by omega
    have hx:=aK5 d x r
    have hb1:aAv [x]≤2^26:=by
     have:=aA4 d (x::r)
     have e1:aAv (x::r)=aAv [x]+aAv r:=aA4 [x] r
     omega
    have h3x:=h3 [x] hb1
    have hpl:aAt (d++[x])=aAt d++List.replicate x.src.length (decide (x.kind=1)):=aK1 d x
    rw [aOo] at hl
    rw [aTu] at h3x
    have hdl:(aAt d).length=(srcs d).length:=aFd d
    have hn2:d.length≤1000000:=by rw [List.length_append] at hn; omega
    have hlc:(encs (d++x::r)).length=d.length+(r.length+1):=by rw [aA8]; simp
    generalize x.src=w at *
    obtain ⟨k,tg,tx,ks,av⟩:=x
    simp only [encs,Node.cs] at h3x hsl hx
    simp only [push_cast,seval,-Nat.reducePow,j0,j3,j4,jL,h0,he1,hsl]
    repeat refine And.intro (by omega) ?_
    refine aAa h3x (by simp only [push_cast,seval,-Nat.reducePow,aAr]) (by simp only [push_cast,seval,-Nat.reducePow]) ?_
    have hbb:decide ((Node.mk k tg tx ks av).kind=1)=decide (k=1):=rfl
    rw [hbb] at hpl
    simp only [push_cast,seval,-Nat.reducePow,j0,j3,j4,jL]
    refine aAg (fun m s2=>∃ j id2,j≤w.length∧m=w.length-j∧s2.env 0=.lst 5 (encs (d++Node.mk k tg tx ks av::r))∧s2.env 4=.int .i64 d.length∧s2.env 5=.int .i64 w.length∧s2.env 6=.int .i64 j∧s2.env 3=.own id2 1 0 ((aAt d).length+j)∧s2.L id2=some (.vec (T 15) 1 (bls (aAt d++List.replicate j (decide (k=1)))))∧id2<s2.nx) w.length ⟨0,id,?_⟩ fun m s2 hJ=>?_
    ·simp only [push_cast,seval,-Nat.reducePow,j0,j3,j4,jL]
     simp
     omega
    ·obtain ⟨j,id2,hj,rfl,k0,k4,k5,k6,k3,kL,kid⟩:=hJ
     by_cases hjw:j<w.length
     ·have hjw':((j:Nat):Int)<((w.length:Nat):Int):=by omega
      have hlen:(bls (aAt d++List.replicate j (decide (k=1)))).length=(aAt d).length+j:=by rw [aIp,List.length_append,List.length_replicate]
      have htk:List.take ((aAt d).length+j) (bls (aAt d++List.replicate j (decide (k=1))))=bls (aAt d++List.replicate j (decide (k=1))):=List.take_of_length_le (by omega)
      have hsn:bls (aAt d++List.replicate j (decide (k=1)))++[.bool (decide (k=1))]=bls (aAt d++List.replicate (j+1) (decide (k=1))):=by rw [aTd,List.append_assoc,aTp]
      simp only [push_cast,seval,-Nat.reducePow,k0,k3,k4,k5,k6,kL,hjw',hx,hlen,htk,hsn]
      exact ⟨by omega,by omega,w.length-(j+1),by omega,j+1,s2.nx+68,by omega,rfl,by simp,rfl,aAf _ _ _,by omega⟩
     ·have hjw':¬ ((j:Nat):Int)<((w.length:Nat):Int):=by omega
      obtain rfl:j=w.length:=by omega
      simp only [push_cast,seval,-Nat.reducePow,k0,k3,k4,k5,k6,kL,hjw']
      refine ⟨by omega,r.length,by simp,d++[.mk k tg tx ks av],r,id2,by simp,rfl,by simp,?_,?_,by omega⟩
      ·rw [hpl]; simp
      ·rw [hpl]; exact kL
theorem aV9 (s:List UInt8) (p:List Bool) {i:Nat} (h:i≤s.length):rawF s p (s.length+1) i=aC1 s p i++rawF s p (s.length+1) (aBi s i+1):=by
 have hle:=aD7 (s:=s) (i:=i) h
 by_cases hi:i<s.length
 ·rw [aOs s p hi]
  by_cases hE:aBi s i+1≤s.length
  ·rw [Nat.min_eq_left hE]
  ·rw [aGz s p _ (i:=min (aBi s i+1) s.length) (by omega),aGz s p _ (i:=aBi s i+1) (by omega)]
 ·have he:(s.take (aBi s i)).drop i=[]:=List.drop_eq_nil_of_le (by rw [List.length_take]; omega)
  have hs:aC1 s p i=[]:=by
   rw [aC1,he,bBz]
   split <;> rfl
  rw [hs,aGz s p _ (by omega),aGz s p _ (by omega)]; rfl
theorem bHz {s:List UInt8} {i j:Nat} (hi:i≤s.length) (h1:i≤j) (h2:j<aBi s i):(s.getD j 0).toNat≠10:=by
 have:j-i<aCa (s.drop i):=by unfold aBi at h2; omega
 obtain ⟨b,hb,hb2⟩:=aUu this
 rw [List.getElem?_drop,show i+(j-i)=j by omega] at hb
 simp only [List.getD,hb,Option.getD_some]
 intro e
 apply hb2
 have:b=UInt8.ofNat b.toNat:=by simp
 rw [this,e]; rfl
theorem bEd {s:List UInt8} {i:Nat} (hi:i≤s.length) (h2:aBi s i<s.length):(s.getD (aBi s i) 0).toNat=10:=by
 have h3:aCa (s.drop i)<(s.drop i).length:=by rw [List.length_drop]; unfold aBi at h2; omega
 have h4:=aKj h3
 rw [List.getElem?_drop] at h4
 simp only [List.getD,aBi,h4,Option.getD_some]
 rfl
end Go.Ab
