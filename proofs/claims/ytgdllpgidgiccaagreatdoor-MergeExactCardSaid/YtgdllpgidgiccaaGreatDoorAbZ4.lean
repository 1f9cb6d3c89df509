/- Several texts of one kind, merged. No condition. -/
import Derived.Test.YtgdllpgidgiccaaGreatDoorAbZ1
set_option linter.unusedSimpArgs false
set_option linter.unusedVariables false
namespace Go.Ab
def c159 (F T:Nat→Nat):C :=
 .n [.mov (some 2) (.k .nils),.mov (some 3) (.i 0)] <|
 .n [.m 16 0,.c 17 (F 37) [.t 16],.m 15 17,.x 18 0 15,.x 19 1 15,.m 4 18,.m 5 19] <|
 .seq (.n [.m 20 5,.bi 21 .neq 20 0] <|
 .cond (.t 21)
 (.n [.m 22 5,.mov (some 2) (.k .nils),.m 3 22] <|
 .ret)
 (.skip)) <|
 .n [.m 23 4,.c 24 (F 168) [.t 23],.m 6 24] <|
 .seq (.gha (.own 7 (T 14) 5) <| .o [.mov (some 7) (.k .nils)]) <|
 .seq (.n [.mov (some 8) (.i 0)] <|
 .block 0 <|
 .loop <|
 .seq (.n [.m 25 8,.m 26 0,.ls 27 26,.b 28 .leq 25 27] <|
 .cond (.t 28)
 (.skip)
 (.exit 0)) <|
 .block 1 <|
 .n [.m 29 8,.m 9 29] <|
 .n [.mov (some 10) (.k (.bool true))] <|
 .seqc (.block 2 <|
 .loop <|
 .seq (.seq (.ops false [⟨none,[.m 30 9,.m 31 0,.ls 32 31,.b 33 .lss 30 32,.m 34 33]⟩,
 ⟨some (34,true),[.m 35 0,.m 36 9,.ix 37 35 36,.bin (some 38) .neq (.t 37) (.k (.int .u8 10))]⟩,
 ⟨none,[.pf 39 34 38]⟩]) <|
 .cond (.t 39)
 (.skip)
 (.exit 2)) <|
 .block 3 <|
 .seq (.ops false [⟨none,[.m 40 10,.m 41 40]⟩,
 ⟨some (41,true),[.m 42 6,.m 43 9,.ia 44 1 42 43,.l 45 44]⟩,
 ⟨none,[.pf 46 41 45,.m 10 46]⟩]) <|
 .o [.m 47 9,.bi 48 .add 47 1,.m 9 48]) <|
 .seqc (.n [.m 50 0,.m 51 8,.m 52 9,.slcS (some 53) (.t 50) (some (.t 51)) (some (.t 52)),.c 54 (F 169) [.t 53],.m 49 54,.x 55 0 49,.x 56 1 49,.m 11 55,.m 12 56] <|
 .seq (.ops false [⟨none,[.m 57 10,.m 58 57]⟩,
 ⟨some (58,true),[.m 59 11,.bi 60 .gtr 59 0]⟩,
 ⟨none,[.pf 61 58 60]⟩]) <|
 .cond (.t 61)
 (.o [.m 62 7,.m 63 11,.m 64 12,.m 65 8,.m 66 9,.bi 67 .add 66 1,.m 68 0,.ls 69 68,.mx (some 70) false (.t 67) (.t 69),.m 71 0,.ls 72 71,.build (some 73) [(.int .i64 0),(.str []),(.int .i64 0),(.int .i64 0),(.int .i64 0)] [(0,1,(.t 63)),(1,1,(.t 64)),(2,1,(.t 65)),(3,1,(.t 70)),(4,1,(.t 72))],.mkl (some 74) 5 [.t 73],.app 75 (T 14) 5 (.t 62) (.t 74),.m 7 75])
 (.skip)) <|
 .o [.m 76 9,.bi 77 .add 76 1,.m 8 77]) <|
 .seq (.n [.mov (some 13) (.i 0)] <|
 .block 4 <|
 .loop <|
 .seq (.n [.m 78 13,.m 79 7,.ll 80 79,.b 81 .lss 78 80] <|
 .cond (.t 81)
 (.skip)
 (.exit 4)) <|
 .seq (.block 5 <|
 .n [.m 84 7,.ll 85 84,.bi 86 .sub 85 1,.m 14 86] <|
 .block 6 <|
 .loop <|
 .seq (.n [.m 87 14,.m 88 13,.b 89 .gtr 87 88] <|
 .cond (.t 89)
 (.skip)
 (.exit 6)) <|
 .seq (.block 7 <|
 .seq (.p [.m 92 7,.m 93 14,.ia 94 5 92 93,.f 95 0 94,.l 96 95,.m 97 7,.m 98 13,.ia 99 5 97 98,.f 100 0 99,.l 101 100,.b 102 .leq 96 101]) <|
 .cond (.t 102)
 (.o [.m 103 7,.m 104 13,.m 105 7,.m 106 14,.ia 107 5 105 106,.f 108 2 107,.l 109 108,.ia 110 5 103 104,.f 111 4 110,.store 1 (.t 111) (.t 109)])
 (.skip)) <|
 .o [.m 90 14,.bi 91 .sub 90 1,.m 14 91]) <|
 .o [.m 82 13,.bi 83 .add 82 1,.m 13 83]) <|
 .n [.m 112 7,.m 2 112,.mov (some 3) (.i 0)] <|
 .ret
abbrev bJt (P:Program) (F T:Nat→Nat):Prop:=Fn P (F 159) 113 [(2,none),(3,none)] (c159 F T)
def c164 (F T:Nat→Nat):C :=
 .n [.mov (some 2) (.s []),.mov (some 3) (.i 0)] <|
 .n [.m 7 0,.c 8 (F 159) [.t 7],.m 6 8,.x 9 0 6,.x 10 1 6,.m 4 9,.m 5 10] <|
 .seq (.n [.m 11 5,.bi 12 .neq 11 0] <|
 .cond (.t 12)
 (.n [.m 13 5,.mov (some 2) (.s []),.m 3 13] <|
 .ret)
 (.skip)) <|
 .seq (.n [.m 14 4,.ll 15 14,.bi 16 .gtr 15 0] <|
 .cond (.t 16)
 (.n [.m 17 0,.m 18 4,.iadr (some 19) 5 (.t 18) (.i 0),.f 20 2 19,.l 21 20,.slcS (some 22) (.t 17) none (some (.t 21)),.m 2 22,.mov (some 3) (.i 0)] <|
 .ret)
 (.skip)) <|
 .n [.m 23 0,.m 2 23,.mov (some 3) (.i 0)] <|
 .ret
abbrev bOs (P:Program) (F T:Nat→Nat):Prop:=Fn P (F 164) 24 [(2,none),(3,none)] (c164 F T)
def c168 (F T:Nat→Nat):C :=
 .n [.mov (some 2) (.k .nils)] <|
 .seq (.gha (.own 3 (T 15) 1) <| .o [.mov (some 3) (.k .nils)]) <|
 .seq (.n [.mov (some 4) (.i 0)] <|
 .block 0 <|
 .loop <|
 .seq (.n [.m 7 4,.m 8 0,.ll 9 8,.b 10 .lss 7 9] <|
 .cond (.t 10)
 (.skip)
 (.exit 0)) <|
 .seq (.block 1 <|
 .n [.m 13 0,.m 14 4,.m 15 4,.bi 16 .add 15 1,.slc (some 17) 5 (.t 13) (some (.t 14)) (some (.t 16)),.c 18 (F 3) [.t 17],.ls 19 18,.m 5 19] <|
 .n [.mov (some 6) (.i 0)] <|
 .block 2 <|
 .loop <|
 .seq (.n [.m 20 6,.m 21 5,.b 22 .lss 20 21] <|
 .cond (.t 22)
 (.skip)
 (.exit 2)) <|
 .seq (.block 3 <|
 .o [.m 25 3,.m 26 0,.m 27 4,.ia 28 5 26 27,.f 29 0 28,.l 30 29,.bi 31 .eql 30 1,.mkl (some 32) 1 [.t 31],.app 33 (T 15) 1 (.t 25) (.t 32),.m 3 33]) <|
 .o [.m 23 6,.bi 24 .add 23 1,.m 6 24]) <|
 .o [.m 11 4,.bi 12 .add 11 1,.m 4 12]) <|
 .n [.m 34 3,.m 2 34] <|
 .ret
abbrev bHj (P:Program) (F T:Nat→Nat):Prop:=Fn P (F 168) 35 [(2,none)] (c168 F T)
def c169 (F T:Nat→Nat):C :=
 .n [.mov (some 2) (.i 0),.mov (some 3) (.s [])] <|
 .n [.m 8 0,.c 9 (F 138) [.t 8],.m 0 9] <|
 .n [.mov (some 4) (.i 0),.mov (some 5) (.i 0)] <|
 .seqc (.block 0 <|
 .loop <|
 .seq (.seq (.ops false [⟨none,[.m 10 4,.m 11 0,.ls 12 11,.b 13 .lss 10 12,.m 14 13]⟩,
 ⟨some (14,true),[.m 15 0,.m 16 4,.ix 17 15 16,.bin (some 18) .eql (.t 17) (.k (.int .u8 61))]⟩,
 ⟨none,[.pf 19 14 18]⟩]) <|
 .cond (.t 19)
 (.skip)
 (.exit 0)) <|
 .block 1 <|
 .o [.m 20 4,.bi 21 .add 20 1,.m 4 21]) <|
 .seqc (.block 2 <|
 .loop <|
 .seq (.seq (.ops false [⟨none,[.m 22 5,.m 23 0,.ls 24 23,.b 25 .lss 22 24,.m 26 25]⟩,
 ⟨some (26,true),[.m 27 0,.m 28 0,.ls 29 28,.bi 30 .sub 29 1,.m 31 5,.b 32 .sub 30 31,.ix 33 27 32,.bin (some 34) .eql (.t 33) (.k (.int .u8 61))]⟩,
 ⟨none,[.pf 35 26 34]⟩]) <|
 .cond (.t 35)
 (.skip)
 (.exit 2)) <|
 .block 3 <|
 .o [.m 36 5,.bi 37 .add 36 1,.m 5 37]) <|
 .seq (.seq (.ops false [⟨none,[.m 38 4,.bi 39 .eql 38 0,.m 40 39]⟩,
 ⟨some (40,false),[.m 41 5,.bi 42 .eql 41 0]⟩,
 ⟨none,[.pt 43 40 42,.m 44 43]⟩,
 ⟨some (44,false),[.m 45 4,.m 46 0,.ls 47 46,.b 48 .eql 45 47]⟩,
 ⟨none,[.pt 49 44 48]⟩]) <|
 .cond (.t 49)
 (.n [.mov (some 2) (.i 0),.mov (some 3) (.s [])] <|
 .ret)
 (.skip)) <|
 .n [.m 50 4,.m 51 5,.mx3 (some 52) false (.t 50) (.t 51) (.i 6),.m 6 52] <|
 .n [.m 53 0,.m 54 6,.m 55 0,.ls 56 55,.m 57 6,.b 58 .sub 56 57,.slcS (some 59) (.t 53) (some (.t 54)) (some (.t 58)),.c 60 (F 125) [.t 59],.m 7 60] <|
 .seq (.n [.m 61 7,.bin (some 62) .eql (.t 61) (.s [])] <|
 .cond (.t 62)
 (.n [.mov (some 2) (.i 0),.mov (some 3) (.s [])] <|
 .ret)
 (.skip)) <|
 .n [.m 63 6,.m 64 7,.m 2 63,.m 3 64] <|
 .ret
abbrev bGw (P:Program) (F T:Nat→Nat):Prop:=Fn P (F 169) 65 [(2,none),(3,none)] (c169 F T)
end Go.Ab
namespace Go.Ab
variable {P:Program} {F T:Nat→Nat}
open Go.Lib
theorem t169 (hf:bGw P F T) (h138:aX5 P F T) (h125:bCs P F T) (s:List UInt8) (hs:s.length≤100000):PTr P (F 169) [.str s] (hdR s):=by
 have hTl:=bFo s
 have imm:(hdR s).imm=true:=by unfold hdR; split <;> rfl
 have c1:=t138 h138 s (by omega)
 have hT:trimRightS s wsp=hdT s:=rfl
 have hr1:=aO7 61 (hdT s)
 have hr2:=aS8 61 (hdT s)
 have f3:min (min ((runL 61 (hdT s):Nat):Int) ((runL 61 (hdT s).reverse:Nat):Int)) 6=(hdN s:Nat):=by unfold hdN; omega
 rw [hT] at c1
 refine ptrC [] hf (by simp) imm ?_
 simp only [c169,push_cast,seval,-Nat.reducePow]
 refine aAb c1 (by simp only [push_cast,seval,-Nat.reducePow]) (by simp only [push_cast,seval,-Nat.reducePow]) ?_
 simp only [push_cast,seval,-Nat.reducePow]
 refine aAs (fun s2=>s2.env 0=.str (hdT s)∧s2.env 4=.int .i64 (runL 61 (hdT s))∧s2.env 5=.int .i64 0) ?_ ?_
 ·simp only [push_cast,seval,-Nat.reducePow]
  refine aAe (fun m s1=>∃ a,a≤runL 61 (hdT s)∧m=runL 61 (hdT s)-a∧s1.env 0=.str (hdT s)∧s1.env 4=.int .i64 a∧s1.env 5=.int .i64 0) (runL 61 (hdT s)) ⟨0,?_⟩ fun m s1 hJ=>?_
  ·simp only [push_cast,seval,-Nat.reducePow]
   simp
  ·obtain ⟨a,ha,rfl,j0,j4,j5⟩:=hJ
   by_cases hal:a<(hdT s).length
   ·have hal':((a:Nat):Int)<((hdT s).length:Nat):=by omega
    have hat:=bF4 ha hal
    by_cases h61:((hdT s).getD a 0).toNat=61
    ·have h61':((((hdT s).getD a 0).toNat:Nat):Int)=61:=by omega
     have:=hat.1 h61
     simp only [push_cast,seval,-Nat.reducePow,j0,j4,j5,hal',h61']
     exact ⟨by omega,by omega,runL 61 (hdT s)-(a+1),by omega,a+1,by omega,rfl,by simp⟩
    ·have h61':¬ ((((hdT s).getD a 0).toNat:Nat):Int)=61:=by omega
     have hae:runL 61 (hdT s)=a:=by
      rcases Nat.lt_or_ge a (runL 61 (hdT s)) with h | h
      ·exact absurd (hat.2 h) h61
      ·omega
     simp only [push_cast,seval,-Nat.reducePow,j0,j4,j5,hal',h61',hae]
     omega
   ·have hal':¬ ((a:Nat):Int)<((hdT s).length:Nat):=by omega
    have hae:runL 61 (hdT s)=a:=by omega
    simp only [push_cast,seval,-Nat.reducePow,j0,j4,j5,hal',hae]
 ·rintro s2 ⟨k0,k4,k5⟩
  simp only [push_cast,seval,-Nat.reducePow,k0,k4,k5]
  refine aAs (fun s2=>s2.env 0=.str (hdT s)∧s2.env 4=.int .i64 (runL 61 (hdT s))∧s2.env 5=.int .i64 (runL 61 (hdT s).reverse)) ?_ ?_
  ·simp only [push_cast,seval,-Nat.reducePow]
   refine aAe (fun m s1=>∃ a,a≤runL 61 (hdT s).reverse∧m=runL 61 (hdT s).reverse-a∧s1.env 0=.str (hdT s)∧s1.env 5=.int .i64 a∧s1.env 4=.int .i64 (runL 61 (hdT s))) (runL 61 (hdT s).reverse) ⟨0,?_⟩ fun m s1 hJ=>?_
   ·simp only [push_cast,seval,-Nat.reducePow,k0,k4,k5]
    simp
   ·obtain ⟨a,ha,rfl,j0,j5,j4⟩:=hJ
    by_cases hal:a<(hdT s).length
    ·have hal':((a:Nat):Int)<((hdT s).length:Nat):=by omega
     have hat:=bF4 ha (by simpa using hal)
     rw [bGu hal] at hat
     have hix:(((hdT s).length:Nat):Int)-1-(a:Nat)=(((hdT s).length-1-a:Nat):Int):=by omega
     obtain ⟨I,hI⟩:∃ I,I=(hdT s).length-1-a:=⟨_,rfl⟩
     rw [← hI] at hix hat
     by_cases h61:((hdT s).getD I 0).toNat=61
     ·have h61':((((hdT s).getD I 0).toNat:Nat):Int)=61:=by omega
      have:=hat.1 h61
      simp only [push_cast,seval,-Nat.reducePow,j0,j4,j5,hal',hix,h61']
      exact ⟨by omega,by omega,by omega,by omega,runL 61 (hdT s).reverse-(a+1),by omega,a+1,by omega,rfl,by simp⟩
     ·have h61':¬ ((((hdT s).getD I 0).toNat:Nat):Int)=61:=by omega
      have hae:runL 61 (hdT s).reverse=a:=by
       rcases Nat.lt_or_ge a (runL 61 (hdT s).reverse) with h | h
       ·exact absurd (hat.2 h) h61
       ·omega
      simp only [push_cast,seval,-Nat.reducePow,j0,j4,j5,hal',hix,h61',hae]
      omega
    ·have hal':¬ ((a:Nat):Int)<((hdT s).length:Nat):=by omega
     have hae:runL 61 (hdT s).reverse=a:=by omega
     simp only [push_cast,seval,-Nat.reducePow,j0,j4,j5,hal',hae]
  ·rintro s3 ⟨k0,k4,k5⟩
   by_cases h1:runL 61 (hdT s)=0
   ·have h1':((runL 61 (hdT s):Nat):Int)=0:=by omega
    have hb:aE3 s:=.inl h1
    simp only [push_cast,seval,-Nat.reducePow,k0,k4,k5,h1',hdR,hb,view,if_true,true_or]
   ·have h1':¬ ((runL 61 (hdT s):Nat):Int)=0:=by omega
    by_cases h2:runL 61 (hdT s).reverse=0
    ·have h2':((runL 61 (hdT s).reverse:Nat):Int)=0:=by omega
     have hb:aE3 s:=.inr (.inl h2)
     simp only [push_cast,seval,-Nat.reducePow,k0,k4,k5,h1',h2',hdR,hb,view,if_true,true_or]
    ·have h2':¬ ((runL 61 (hdT s).reverse:Nat):Int)=0:=by omega
     by_cases h3:runL 61 (hdT s)=(hdT s).length
     ·have h3':((runL 61 (hdT s):Nat):Int)=((hdT s).length:Nat):=by omega
      have hb:aE3 s:=.inr (.inr h3)
      have h4':¬ (((hdT s).length:Nat):Int)=0:=by omega
      simp only [push_cast,seval,-Nat.reducePow,k0,k4,k5,h4',h2',h3',hdR,hb,view,if_true,true_or]
     ·have h3':¬ ((runL 61 (hdT s):Nat):Int)=((hdT s).length:Nat):=by omega
      have hb:¬ aE3 s:=by unfold aE3; omega
      obtain ⟨g1,g2,g3⟩:=aUg hb
      have f5:(((hdT s).length:Nat):Int)-(hdN s:Nat)=(((hdT s).length-hdN s:Nat):Int):=by omega
      have c2:=t125 h125 h138 (((hdT s).take ((hdT s).length-hdN s)).drop (hdN s)) (by rw [List.length_drop,List.length_take]; omega)
      have hS:trimS (List.drop (hdN s) (List.take ((hdT s).length-hdN s) (hdT s))) wsp=hdS s:=rfl
      rw [hS] at c2
      simp only [push_cast,seval,-Nat.reducePow,k0,k4,k5,f3,f5,h1',h2',h3',aMk]
      repeat refine And.intro (by omega) ?_
      refine aAb c2 (by simp only [push_cast,seval,-Nat.reducePow]) (by simp only [push_cast,seval,-Nat.reducePow]) ?_
      by_cases hem:hdS s=[]
      ·simp only [push_cast,seval,-Nat.reducePow,k0,k4,k5,hdR,hb,hem,view,or_true,if_true]
      ·simp only [push_cast,seval,-Nat.reducePow,k0,k4,k5,hdR,hb,hem,view,or_self,if_false]
theorem t164 (hf:bOs P F T) (h159:aNw P (F 159)) (s:List UInt8) (hs:s.length≤8192):PTr P (F 164) [.str s] (.tup [.str (aHz s),.int .i64 0]):=by
 have h1:=h159 s hs
 have hok:=aJ4 s
 refine ptrC [] hf (by simp) rfl ?_
 simp only [c164,push_cast,seval,-Nat.reducePow]
 refine aAb h1 (by simp only [push_cast,seval,-Nat.reducePow]) (by simp only [push_cast,seval,-Nat.reducePow,aEe]) ?_
 unfold aHz
 cases hl:aEh s with
 | nil =>
   simp only [push_cast,seval,-Nat.reducePow,secV,List.map_nil,view]
 | cons x r =>
   have:=hok x (by rw [hl]; simp)
   have h2:=this.bd
   have h3:=this.le
   have h4:=this.to
   have h5:(0:Int)<((r.length:Nat):Int)+1:=by omega
   have h6:List.drop 0 (List.take x.fr s)=List.take x.fr s:=rfl
   simp only [push_cast,seval,-Nat.reducePow,secV,List.map_cons,view,Sec.v,List.getD_cons_zero,List.length_cons,List.length_map,h5]
   omega
theorem t168 (hf:bHj P F T) (h3:∀ l:List Node,aAk l≤2^26→PTr P (F 3) [.lst 5 (encs l)] (.str (srcs l))) (l:List Node) (hb:aAk l≤2^26) (hl:(srcs l).length≤100000) (hn:l.length≤1000000) :
 PTr P (F 168) [.lst 5 (encs l)] (.lst 1 (bls (aAy l))):=by
 refine ptrC [] hf (by simp [aAm]) (by simp [V.imm,aIc]) ?_
 simp only [c168,push_cast,seval,-Nat.reducePow]
 refine aAe (fun m s1=>∃ d r id,l=d++r∧m=r.length∧s1.env 0=.lst 5 (encs l)∧s1.env 4=.int .i64 d.length∧s1.env 3=.own id 1 0 (aAy d).length∧s1.L id=some (.vec (T 15) 1 (bls (aAy d)))∧id<s1.nx) l.length ⟨[],l,70,?_⟩ fun m s1 hJ=>?_
 ·simp only [push_cast,seval,-Nat.reducePow]
  exact ⟨rfl,rfl⟩
 ·obtain ⟨d,r,id,rfl,rfl,j0,j4,j3,jL,hid⟩:=hJ
  have hlen:=aBe (d++r)
  cases r with
  | nil =>
    have h0:¬ ((d.length:Nat):Int)<(((encs (d++[])).length:Nat):Int):=by rw [aBe]; simp
    simp only [List.append_nil] at h0 j0 ⊢
    simp only [push_cast,seval,-Nat.reducePow,j0,j3,j4,jL,h0]
    exact bBt jL (aIc _) (aJz _).symm
  | cons x r =>
    have h0:((d.length:Nat):Int)<(((encs (d++x::r)).length:Nat):Int):=by rw [aBe]; simp; omega
    have hsl:=bEq d x r
    have he1:(((d.length:Nat):Int)+1).toNat=d.length+1:=by omega
    have hx:=aJ0 d x r
    have hb1:aAk [x]≤2^26:=by
     have:=aAl d (x::r)
     have e1:aAk (x::r)=aAk [x]+aAk r:=aAl [x] r
     omega
    have h3x:=h3 [x] hb1
    have hpl:aAy (d++[x])=aAy d++List.replicate x.src.length (decide (x.kind=1)):=aMf d x
    rw [aOl] at hl
    rw [aUa] at h3x
    have hdl:(aAy d).length=(srcs d).length:=aF1 d
    have hn2:d.length≤1000000:=by rw [List.length_append] at hn; omega
    have hlc:(encs (d++x::r)).length=d.length+(r.length+1):=by rw [aBe]; simp
    generalize x.src=w at *
    obtain ⟨k,tg,tx,ks,av⟩:=x
    simp only [encs,Node.cs] at h3x hsl hx
    simp only [push_cast,seval,-Nat.reducePow,j0,j3,j4,jL,h0,he1,hsl]
    repeat refine And.intro (by omega) ?_
    refine aAb h3x (by simp only [push_cast,seval,-Nat.reducePow,aAm]) (by simp only [push_cast,seval,-Nat.reducePow]) ?_
    have hbb:decide ((Node.mk k tg tx ks av).kind=1)=decide (k=1):=rfl
    rw [hbb] at hpl
    simp only [push_cast,seval,-Nat.reducePow,j0,j3,j4,jL]
    refine aAe (fun m s2=>∃ j id2,j≤w.length∧m=w.length-j∧s2.env 0=.lst 5 (encs (d++Node.mk k tg tx ks av::r))∧s2.env 4=.int .i64 d.length∧s2.env 5=.int .i64 w.length∧s2.env 6=.int .i64 j∧s2.env 3=.own id2 1 0 ((aAy d).length+j)∧s2.L id2=some (.vec (T 15) 1 (bls (aAy d++List.replicate j (decide (k=1)))))∧id2<s2.nx) w.length ⟨0,id,?_⟩ fun m s2 hJ=>?_
    ·simp only [push_cast,seval,-Nat.reducePow,j0,j3,j4,jL]
     simp
     omega
    ·obtain ⟨j,id2,hj,rfl,k0,k4,k5,k6,k3,kL,kid⟩:=hJ
     by_cases hjw:j<w.length
     ·have hjw':((j:Nat):Int)<((w.length:Nat):Int):=by omega
      have hlen:(bls (aAy d++List.replicate j (decide (k=1)))).length=(aAy d).length+j:=by rw [aJz,List.length_append,List.length_replicate]
      have htk:List.take ((aAy d).length+j) (bls (aAy d++List.replicate j (decide (k=1))))=bls (aAy d++List.replicate j (decide (k=1))):=List.take_of_length_le (by omega)
      have hsn:bls (aAy d++List.replicate j (decide (k=1)))++[.bool (decide (k=1))]=bls (aAy d++List.replicate (j+1) (decide (k=1))):=by rw [aUh,List.append_assoc,aTz]
      simp only [push_cast,seval,-Nat.reducePow,k0,k3,k4,k5,k6,kL,hjw',hx,hlen,htk,hsn]
      exact ⟨by omega,by omega,w.length-(j+1),by omega,j+1,s2.nx+68,by omega,rfl,by simp,rfl,aAd _ _ _,by omega⟩
     ·have hjw':¬ ((j:Nat):Int)<((w.length:Nat):Int):=by omega
      obtain rfl:j=w.length:=by omega
      simp only [push_cast,seval,-Nat.reducePow,k0,k3,k4,k5,k6,kL,hjw']
      refine ⟨by omega,r.length,by simp,d++[.mk k tg tx ks av],r,id2,by simp,rfl,by simp,?_,?_,by omega⟩
      ·rw [hpl]; simp
      ·rw [hpl]; exact kL
theorem bAi (hf:bHj P F T) (h3:∀ l:List Node,aAk l≤2^26→PTr P (F 3) [.lst 5 (encs l)] (.str (srcs l))) (s:List UInt8) (hs:s.length≤8192):PTr P (F 168) [.lst 5 (encs (aB4 s))] (.lst 1 (bls (aAy (aB4 s)))):=by
 have hb:=aLk s
 have hr:=aGc s
 have:=aCi (aB4 s)
 exact t168 hf h3 (aB4 s) (by omega) (by rw [hr]; omega) (by omega)
theorem aVf (s:List UInt8) (p:List Bool) {i:Nat} (h:i≤s.length):rawF s p (s.length+1) i=aDo s p i++rawF s p (s.length+1) (aCk s i+1):=by
 have hle:=aE2 (s:=s) (i:=i) h
 by_cases hi:i<s.length
 ·rw [aQb s p hi]
  by_cases hE:aCk s i+1≤s.length
  ·rw [Nat.min_eq_left hE]
  ·rw [aHl s p _ (i:=min (aCk s i+1) s.length) (by omega),aHl s p _ (i:=aCk s i+1) (by omega)]
 ·have he:(s.take (aCk s i)).drop i=[]:=List.drop_eq_nil_of_le (by rw [List.length_take]; omega)
  have hs:aDo s p i=[]:=by
   rw [aDo,he,bAu]
   split <;> rfl
  rw [hs,aHl s p _ (by omega),aHl s p _ (by omega)]; rfl
theorem bGy {s:List UInt8} {i j:Nat} (hi:i≤s.length) (h1:i≤j) (h2:j<aCk s i):(s.getD j 0).toNat≠10:=by
 have:j-i<aC4 (s.drop i):=by unfold aCk at h2; omega
 obtain ⟨b,hb,hb2⟩:=aT8 this
 rw [List.getElem?_drop,show i+(j-i)=j by omega] at hb
 simp only [List.getD,hb,Option.getD_some]
 intro e
 apply hb2
 have:b=UInt8.ofNat b.toNat:=by simp
 rw [this,e]; rfl
theorem bEs {s:List UInt8} {i:Nat} (hi:i≤s.length) (h2:aCk s i<s.length):(s.getD (aCk s i) 0).toNat=10:=by
 have h3:aC4 (s.drop i)<(s.drop i).length:=by rw [List.length_drop]; unfold aCk at h2; omega
 have h4:=aLa h3
 rw [List.getElem?_drop] at h4
 simp only [List.getD,aCk,h4,Option.getD_some]
 rfl
theorem t159 (hf:bJt P F T) (h169:bGw P F T) (h138:aX5 P F T) (h125:bCs P F T) (s:List UInt8) (hs:s.length≤8192) (h37:PTr P (F 37) [.str s] (.tup [.lst 5 (encs (aB4 s)),.int .i64 0])) (h168:PTr P (F 168) [.lst 5 (encs (aB4 s))] (.lst 1 (bls (aAy (aB4 s))))):PTr P (F 159) [.str s] (.tup [.lst 5 (secV (aEh s)),.int .i64 0]):=by
 obtain ⟨p,hp⟩:∃ p,p=aAy (aB4 s):=⟨_,rfl⟩
 have hpl:p.length=s.length:=by rw [hp,aF1,aGc]
 have hsec:aEh s=toF (rawF s p (s.length+1) 0):=by rw [aEh,hp]
 have hcnt:=aHj s p (s.length+1) 0
 rw [← hp] at h168
 refine ptrC [] hf (by simp) (by simp [V.imm,V.imms,aEe]) ?_
 simp only [c159,push_cast,seval,-Nat.reducePow]
 refine aAb h37 (by simp only [push_cast,seval,-Nat.reducePow]) (by simp only [push_cast,seval,-Nat.reducePow,aAm]) ?_
 simp only [push_cast,seval,-Nat.reducePow]
 refine aAb h168 (by simp only [push_cast,seval,-Nat.reducePow,aAm]) (by simp only [push_cast,seval,-Nat.reducePow,aIc]) ?_
 refine aAe (fun m s1=>∃ a i id,rawF s p (s.length+1) 0=a++rawF s p (s.length+1) i∧m=s.length+1-i∧i≤s.length+1∧a.length≤i∧s1.env 0=.str s∧s1.env 6=.lst 1 (bls p)∧s1.env 8=.int .i64 i∧s1.env 7=.own id 5 0 a.length∧s1.L id=some (.vec (T 14) 5 (secV a))∧id<s1.nx) (s.length+1) ⟨[],0,565,?_⟩ fun m s1 hJ=>?_
 ·simp only [push_cast,seval,-Nat.reducePow]
  rfl
 ·obtain ⟨a,i,id,hra,rfl,hi,hal,j0,j4,j7,j6,jL,hid⟩:=hJ
  by_cases hlt:i≤s.length
  ·have hlt':((i:Nat):Int)≤((s.length:Nat):Int):=by omega
   have hle:=aE2 (s:=s) (i:=i) hlt
   rw [aVf s p hlt] at hra
   have hsq:=aUz s p i
   have hnl:=fun j=>bGy (s:=s) (i:=i) (j:=j) hlt
   have hne:=bEs (s:=s) (i:=i) hlt
   generalize aCk s i=E at *
   obtain ⟨N,hN⟩:∃ N,N=min (E+1) s.length:=⟨_,rfl⟩
   rw [← hN] at hsq
   have hN':min (((E:Nat):Int)+1) ((s.length:Nat):Int)=(N:Nat):=by omega
   simp only [push_cast,seval,-Nat.reducePow,j0,j4,j7,j6,jL,hlt']
   refine aAs (fun s3=>s3.env 0=.str s∧s3.env 6=.lst 1 (bls p)∧s3.env 8=.int .i64 i∧s3.env 7=.own id 5 0 a.length∧s3.L id=some (.vec (T 14) 5 (secV a))∧id<s3.nx∧s3.env 9=.int .i64 E∧s3.env 10=.bool (allP p i E)) ?_ ?_
   ·simp only [push_cast,seval,-Nat.reducePow]
    refine aAe (fun m s3=>∃ j,i≤j∧j≤E∧m=E-j∧s3.env 0=.str s∧s3.env 6=.lst 1 (bls p)∧s3.env 8=.int .i64 i∧s3.env 7=.own id 5 0 a.length∧s3.L id=some (.vec (T 14) 5 (secV a))∧id<s3.nx∧s3.env 9=.int .i64 j∧s3.env 10=.bool (allP p i j)) (E-i) ⟨i,?_⟩ fun m s3 hJ=>?_
    ·simp only [push_cast,seval,-Nat.reducePow,j0,j4,j7,j6,jL,aU4]
     omega
    ·obtain ⟨j,hij,hje,rfl,g0,g4,g7,g6,gL,gid,g12,g11⟩:=hJ
     by_cases hj:j<E
     ·have hj':((j:Nat):Int)<((s.length:Nat):Int):=by omega
      have hjp:j<p.length:=by omega
      have hat:=bF1 p hjp
      have hjb:j<(bls p).length:=by rw [aJz]; exact hjp
      have hst:=aQ9 p hij hjp
      have hnn:=hnl j hij hj
      have hnn':¬ (((s.getD j 0).toNat:Nat):Int)=10:=by omega
      cases hb:allP p i j with
      | true =>
        rw [hb,Bool.true_and] at hst
        rw [hb] at g11
        simp only [push_cast,seval,-Nat.reducePow,g0,g4,g7,g6,gL,g12,g11,hj',hat,hnn']
        exact ⟨by omega,hjb,by omega,E-(j+1),by omega,j+1,by omega,by omega,rfl,by omega,by simp,by rw [hst]⟩
      | false =>
        rw [hb,Bool.false_and] at hst
        rw [hb] at g11
        simp only [push_cast,seval,-Nat.reducePow,g0,g4,g7,g6,gL,g12,g11,hj',hnn']
        exact ⟨by omega,by omega,E-(j+1),by omega,j+1,by omega,by omega,rfl,by omega,by simp,by rw [hst]⟩
     ·obtain rfl:E=j:=by omega
      by_cases hE:E<s.length
      ·have hE':((E:Nat):Int)<((s.length:Nat):Int):=by omega
       have hn':(((s.getD E 0).toNat:Nat):Int)=10:=by have:=hne hE; omega
       simp only [push_cast,seval,-Nat.reducePow,g0,g4,g7,g6,gL,g12,g11,hE',hn']
       omega
      ·have hE':¬ ((E:Nat):Int)<((s.length:Nat):Int):=by omega
       simp only [push_cast,seval,-Nat.reducePow,g0,g4,g7,g6,gL,g12,g11,hE']
       omega
   ·rintro s3 ⟨g0,g4,g7,g6,gL,gid,g12,g11⟩
    simp only [push_cast,seval,-Nat.reducePow]
    refine aAs (fun s4=>∃ id2,s4.env 0=.str s∧s4.env 6=.lst 1 (bls p)∧s4.env 9=.int .i64 E∧s4.env 7=.own id2 5 0 (a++aDo s p i).length∧s4.L id2=some (.vec (T 14) 5 (secV (a++aDo s p i)))∧id2<s4.nx) ?_ ?_
    ·have hcal:=t169 h169 h138 h125 ((s.take E).drop i) (by rw [List.length_drop,List.length_take]; omega)
     have himm:(hdR ((s.take E).drop i)).imm=true:=by unfold hdR; split <;> rfl
     have htk:List.take a.length (secV a)=secV a:=List.take_of_length_le (by rw [aCx]; omega)
     have hpos:¬ aE3 ((s.take E).drop i)→(0:Int)<(hdN ((s.take E).drop i):Nat):=fun h=>by have:=aUg h; omega
     simp only [push_cast,seval,-Nat.reducePow,g0,g4,g7,g6,gL,g12,g11]
     repeat refine And.intro (by omega) ?_
     refine aAb hcal (by simp only [push_cast,seval,-Nat.reducePow]) himm ?_
     generalize (s.take E).drop i=ln at *
     simp only [hdR] at himm ⊢
     by_cases hbad:aE3 ln∨hdS ln=[]
     ·have hs0:aDo s p i=[]:=by rw [hsq]; rcases hbad with h | h <;> simp [hdOk,h]
      rw [if_pos hbad,hs0,List.append_nil]
      cases hall:allP p i E with
      | true =>
        rw [hall] at g11
        simp only [push_cast,seval,-Nat.reducePow,g0,g4,g7,g6,gL,g12,g11]
        exact ⟨id,rfl,gL,by omega⟩
      | false =>
        rw [hall] at g11
        simp only [push_cast,seval,-Nat.reducePow,g0,g4,g7,g6,gL,g12,g11]
        exact ⟨id,rfl,gL,by omega⟩
     ·rw [if_neg hbad]
      rw [not_or] at hbad
      cases hall:allP p i E with
      | false =>
        have hs0:aDo s p i=[]:=by rw [hsq]; simp [hdOk,hbad.1,hbad.2,hall]
        rw [hs0,List.append_nil]
        rw [hall] at g11
        simp only [push_cast,seval,-Nat.reducePow,g0,g4,g7,g6,gL,g12,g11]
        exact ⟨id,rfl,gL,by omega⟩
      | true =>
        have hs0:aDo s p i=[⟨hdN ln,hdS ln,i,N,s.length⟩]:=by rw [hsq]; simp [hdOk,hbad.1,hbad.2,hall]
        have hsn:=aQw a ⟨hdN ln,hdS ln,i,N,s.length⟩
        have hp0:=hpos hbad.1
        simp only [Sec.v] at hsn
        rw [hs0]
        rw [hall] at g11
        simp only [push_cast,seval,-Nat.reducePow,g0,g4,g7,g6,gL,g12,g11,htk,hsn,hp0,hN',aMk]
        exact ⟨by omega,by rw [aCx]; omega,by omega,s3.nx+301,by simp,aAd _ _ _,by omega⟩
    ·rintro s4 ⟨id2,m0,m4,m9,m6,mL,mid⟩
     simp only [push_cast,seval,-Nat.reducePow,m0,m4,m9,m6,mL]
     have hsl:(aDo s p i).length≤1:=by rw [hsq]; split <;> simp
     exact ⟨by omega,s.length+1-(E+1),by omega,a++aDo s p i,E+1,id2,by rw [hra,List.append_assoc],rfl,by omega,by rw [List.length_append]; omega,by simp,rfl,mL,by omega⟩
  ·have hlt':¬ ((i:Nat):Int)≤((s.length:Nat):Int):=by omega
   rw [aHl s p (s.length+1) (i:=i) (by omega),List.append_nil] at hra
   simp only [push_cast,seval,-Nat.reducePow,j0,j4,j7,j6,jL,hlt']
   refine aAe (fun m s2=>∃ d r id,toF a=d++toF r∧a.length=d.length+r.length∧m=r.length∧s2.env 13=.int .i64 d.length∧s2.env 7=.own id 5 0 a.length∧s2.L id=some (.vec (T 14) 5 (secV (d++r)))∧id<s2.nx) a.length ⟨[],a,id,?_⟩ fun m s2 hJ=>?_
   ·simp only [push_cast,seval,-Nat.reducePow,j0,j4,j7,j6,jL]
    omega
   ·obtain ⟨d,r,id,htf,hlen,rfl,k6,k7,kL,kid⟩:=hJ
    cases r with
    | nil =>
      have hd:¬ ((d.length:Nat):Int)<((a.length:Nat):Int):=by simp at hlen; omega
      simp only [push_cast,seval,-Nat.reducePow,k6,k7,kL,hd]
      rw [hsec,hra,htf]
      simp only [toF]
      exact aLi kL (aEe _) (by rw [aCx,List.length_append,hlen])
    | cons x q =>
      have hd:((d.length:Nat):Int)<((a.length:Nat):Int):=by simp at hlen; omega
      simp only [List.length_cons] at hlen
      simp only [push_cast,seval,-Nat.reducePow,k6,k7,kL,hd]
      repeat refine And.intro (by omega) ?_
      refine aAe (fun m s3=>∃ u v,q=u++v∧m=u.length∧s3.env 13=.int .i64 d.length∧s3.env 14=.int .i64 (d.length+u.length:Nat)∧s3.env 7=.own id 5 0 a.length∧s3.L id=some (.vec (T 14) 5 (secV (d++toOf x v::q)))∧id<s3.nx) q.length ⟨q,[],?_⟩ fun m s3 hJ=>?_
      ·have e1:((a.length:Nat):Int)-1=(d.length:Nat)+(q.length:Nat):=by omega
       have e2:toOf x []=x:=rfl
       simp only [push_cast,seval,-Nat.reducePow,k6,k7,kL,e1,e2]
       simp
       omega
      ·obtain ⟨u,v,rfl,rfl,g6,g17,g7,gL,gid⟩:=hJ
       have hx:=aH9 d (toOf x v) (u++v)
       have hlv:(toOf x v).lev=x.lev:=rfl
       have hll:(secV (d++toOf x v::(u++v))).length=d.length+(u.length+v.length+1):=by rw [aCx]; simp
       simp only [List.length_append] at hlen
       rcases List.eq_nil_or_concat u with rfl | ⟨u,y,rfl⟩
       ·have hk:¬ ((d.length:Nat):Int)<((d.length+([]:List Sec).length:Nat):Int):=by simp
        simp only [List.length_nil,Nat.add_zero] at g17 hk
        simp only [push_cast,seval,-Nat.reducePow,g6,g17,g7,gL,hk]
        refine ⟨by omega,v.length,by simp,d++[toOf x v],v,id,?_,by simp at hlen ⊢; omega,rfl,by simp,rfl,by simpa using gL,by omega⟩
        rw [htf]; simp [toF]
       ·have hKd:d.length+(u.concat y).length=d.length+1+u.length:=by simp; omega
        rw [hKd] at g17
        generalize hK:d.length+1+u.length=K at *
        simp only [List.concat_eq_append,List.append_assoc,List.singleton_append,List.length_append,List.length_singleton] at *
        have hk:((d.length:Nat):Int)<((K:Nat):Int):=by omega
        have hy:(secV (d++toOf x v::(u++y::v))).getD K .junk=y.v:=by
         have:=aH9 (d++toOf x v::u) y v
         rw [show (d++toOf x v::u).length=K by simp; omega] at this
         simpa using this
        have hto:=bBq x y v
        have hse:=aU0 d (toOf x v) (endS x y.fr) (u++y::v)
        obtain ⟨X,hX⟩:∃ X,X=toOf x v:=⟨_,rfl⟩
        have hXe:endS x y.fr=⟨X.lev,X.title,X.fr,X.bd,y.fr⟩:=by rw [hX]; rfl
        rw [← hX] at hx hy gL hll hto hse hlv
        by_cases hyx:y.lev≤x.lev
        ·have hyx':((y.lev:Nat):Int)≤((X.lev:Nat):Int):=by omega
         rw [if_pos hyx] at hto
         rw [hXe] at hse
         simp only [Sec.v] at hse
         simp only [push_cast,seval,-Nat.reducePow,g6,g17,g7,gL,hk,hx,hy,Sec.v,hyx']
         refine ⟨by omega,by omega,by omega,by omega,by omega,by omega,by omega,by omega,by omega,u.length,by omega,u,y::v,by simp,rfl,by congr 1; omega,?_,by omega⟩
         rw [hse,hto,hXe]
        ·have hyx':¬ ((y.lev:Nat):Int)≤((X.lev:Nat):Int):=by omega
         rw [if_neg hyx] at hto
         simp only [push_cast,seval,-Nat.reducePow,g6,g17,g7,gL,hk,hx,hy,Sec.v,hyx']
         refine ⟨by omega,by omega,by omega,by omega,by omega,u.length,by omega,u,y::v,by simp,rfl,by congr 1; omega,?_,by omega⟩
         rw [hto,hX]
end Go.Ab
