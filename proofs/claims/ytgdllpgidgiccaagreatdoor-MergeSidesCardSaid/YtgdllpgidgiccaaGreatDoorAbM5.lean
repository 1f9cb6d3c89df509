/- Several texts of one kind, merged. No condition. -/
import Derived.Test.YtgdllpgidgiccaaGreatDoorAbM2
import Derived.Test.YtgdllpgidgiccaaGreatDoorAbM4
import Derived.Test.YtgdllpgidgiccaaGreatDoorAbR7
set_option linter.unusedSimpArgs false
set_option linter.unusedVariables false
namespace Go.Ab
def c272 (F T:Nat→Nat):C :=
 .n [.mov (some 2) (.k .nils),.mov (some 3) (.i 0)] <|
 .n [.m 13 0,.c 14 (F 159) [.t 13],.m 12 14,.x 15 0 12,.x 16 1 12,.m 4 15,.m 5 16] <|
 .seq (.n [.m 17 5,.bi 18 .neq 17 0] <|
 .cond (.t 18)
 (.n [.m 19 5,.mov (some 2) (.k .nils),.m 3 19] <|
 .ret)
 (.skip)) <|
 .n [.m 20 0,.ls 21 20,.m 6 21] <|
 .seqc (.n [.m 22 4,.ll 23 22,.bi 24 .gtr 23 0] <|
 .cond (.t 24)
 (.o [.m 25 4,.iadr (some 26) 5 (.t 25) (.i 0),.f 27 2 26,.l 28 27,.m 6 28])
 (.skip)) <|
 .n [.m 29 0,.m 30 6,.slcS (some 31) (.t 29) none (some (.t 30)),.build (some 32) [(.str []),(.int .i64 0),(.str [])] [(2,1,(.t 31))],.mkv 33 (T 28) 3 [.t 32],.m 7 33] <|
 .seq (.n [.mov (some 8) (.i 0)] <|
 .block 0 <|
 .loop <|
 .seq (.n [.m 34 8,.m 35 4,.ll 36 35,.b 37 .lss 34 36] <|
 .cond (.t 37)
 (.skip)
 (.exit 0)) <|
 .seq (.block 1 <|
 .n [.m 40 0,.ls 41 40,.mov (some 9) (.i 0),.m 10 41] <|
 .seqc (.n [.mov (some 11) (.i 0)] <|
 .block 2 <|
 .loop <|
 .seq (.n [.m 42 11,.m 43 8,.b 44 .lss 42 43] <|
 .cond (.t 44)
 (.skip)
 (.exit 2)) <|
 .seq (.block 3 <|
 .seq (.p [.m 47 4,.m 48 11,.ia 49 5 47 48,.f 50 1 49,.l 51 50,.m 52 4,.m 53 8,.ia 54 5 52 53,.f 55 1 54,.l 56 55,.b 57 .eql 51 56]) <|
 .cond (.t 57)
 (.o [.m 58 9,.bi 59 .add 58 1,.m 9 59])
 (.skip)) <|
 .o [.m 45 11,.bi 46 .add 45 1,.m 11 46]) <|
 .seqc (.n [.m 60 8,.bi 61 .add 60 1,.m 62 4,.ll 63 62,.b 64 .lss 61 63] <|
 .cond (.t 64)
 (.o [.m 65 4,.m 66 8,.bi 67 .add 66 1,.ia 68 5 65 67,.f 69 2 68,.l 70 69,.m 10 70])
 (.skip)) <|
 .p [.m 71 7,.m 72 4,.m 73 8,.ia 74 5 72 73,.f 75 1 74,.l 76 75,.m 77 9,.m 78 0,.m 79 4,.m 80 8,.ia 81 5 79 80,.f 82 2 81,.l 83 82,.m 84 10,.slcS (some 85) (.t 78) (some (.t 83)) (some (.t 84)),.build (some 86) [(.str []),(.int .i64 0),(.str [])] [(0,1,(.t 76)),(1,1,(.t 77)),(2,1,(.t 85))],.mkl (some 87) 3 [.t 86],.app 88 (T 28) 3 (.t 71) (.t 87),.m 7 88]) <|
 .o [.m 38 8,.bi 39 .add 38 1,.m 8 39]) <|
 .n [.m 89 7,.m 2 89,.mov (some 3) (.i 0)] <|
 .ret
abbrev bHf (P:Program) (F T:Nat→Nat):Prop:=Fn P (F 272) 90 [(2,none),(3,none)] (c272 F T)
def c277 (F T:Nat→Nat):C :=
 .n [.mov (some 2) (.s []),.mov (some 3) (.s []),.mov (some 4) (.s [])] <|
 .n [.m 7 0,.e 8 18 (F 39) [.t 7],.m 5 8] <|
 .n [.m 9 5,.e 10 18 (F 284) [.t 9,.i 14],.m 6 10] <|
 .n [.m 11 6,.m 12 5,.m 13 6,.e 14 18 (F 285) [.t 12,.t 13],.m 15 5,.m 16 6,.e 17 18 (F 285) [.t 15,.t 16],.m 2 11,.m 3 14,.m 4 17] <|
 .ret
abbrev bJv (P:Program) (F T:Nat→Nat):Prop:=Fn P (F 277) 18 [(2,none),(3,none),(4,none)] (c277 F T)
def c284 (F T:Nat→Nat):C :=
 .n [.mov (some 4) (.s [])] <|
 .n [.mov (some 5) (.s [])] <|
 .seq (.n [.mov (some 6) (.i 0)] <|
 .block 0 <|
 .loop <|
 .seq (.n [.m 7 6,.m 8 0,.m 9 1,.e 10 26 (F 46) [.t 8,.t 9],.b 11 .lss 7 10] <|
 .cond (.t 11)
 (.skip)
 (.exit 0)) <|
 .seq (.block 1 <|
 .o [.m 14 5,.m 15 0,.mkl (some 16) 1 [.s [97],.s [98],.s [99],.s [97],.s [],.s [61,61,32,115,32,61,61],.s [61,61,32,116,32,61,61],.s [61,61,61,32,115,32,61,61,61],.s [61,61,32,115,32,61,61]],.e 17 26 (F 47) [.t 15,.t 16],.b 18 .add 14 17,.bin (some 19) .add (.t 18) (.s [10]),.m 5 19]) <|
 .o [.m 12 6,.bi 13 .add 12 1,.m 6 13]) <|
 .seq (.n [.m 20 0,.e 21 26 (F 46) [.t 20,.i 4],.bi 22 .eql 21 0] <|
 .cond (.t 22)
 (.o [.m 23 5,.bin (some 24) .add (.t 23) (.s [101,110,100]),.m 5 24])
 (.skip)) <|
 .n [.m 25 5,.m 4 25] <|
 .ret
abbrev bIu (P:Program) (F T:Nat→Nat):Prop:=Fn P (F 284) 26 [(4,none)] (c284 F T)
def c285 (F T:Nat→Nat):C :=
 .n [.mov (some 4) (.s [])] <|
 .n [.m 9 1,.e 10 60 (F 171) [.t 9,.s [10]],.m 5 10] <|
 .seq (.n [.mov (some 6) (.i 0)] <|
 .block 0 <|
 .loop <|
 .seq (.n [.m 11 6,.m 12 0,.e 13 60 (F 46) [.t 12,.i 3],.bin (some 14) .add (.i 1) (.t 13),.b 15 .lss 11 14] <|
 .cond (.t 15)
 (.skip)
 (.exit 0)) <|
 .seq (.block 1 <|
 .n [.m 18 0,.m 19 5,.ll 20 19,.e 21 60 (F 46) [.t 18,.t 20],.m 7 21] <|
 .n [.m 22 0,.mkl (some 23) 1 [.s [120],.s [121],.s [61,61,32,115,32,61,61],.s [61,61,32,110,101,119,32,61,61],.s []],.e 24 60 (F 47) [.t 22,.t 23],.m 8 24] <|
 .n [.m 25 0,.e 26 60 (F 46) [.t 25,.i 3]] <|
 .block 2 <|
 .n [.bi 40 .eql 26 0,.m 39 40] <|
 .cond (.t 39)
 (.o [.m 41 5,.m 42 7,.m 43 8,.ia 44 1 41 42,.store 1 (.t 44) (.t 43)])
 (.n [.bi 46 .eql 26 1,.m 45 46] <|
 .cond (.t 45)
 (.p [.m 47 5,.m 48 7,.slc (some 49) 1 (.t 47) none (some (.t 48)),.app 50 (T 21) 1 (.k .nils) (.t 49),.m 51 8,.mkl (some 52) 1 [.t 51],.app 53 (T 21) 1 (.t 50) (.t 52),.m 54 5,.m 55 7,.slc (some 56) 1 (.t 54) (some (.t 55)) none,.app 57 (T 21) 1 (.t 53) (.t 56),.m 5 57])
 (.n [.m 27 5,.ll 28 27,.bi 29 .gtr 28 1] <|
 .cond (.t 29)
 (.p [.m 30 5,.m 31 7,.slc (some 32) 1 (.t 30) none (some (.t 31)),.app 33 (T 21) 1 (.k .nils) (.t 32),.m 34 5,.m 35 7,.bi 36 .add 35 1,.slc (some 37) 1 (.t 34) (some (.t 36)) none,.app 38 (T 21) 1 (.t 33) (.t 37),.m 5 38])
 (.skip)))) <|
 .o [.m 16 6,.bi 17 .add 16 1,.m 6 17]) <|
 .n [.m 58 5,.call (some 59) false (F 289) [.t 58,.s [10]],.m 4 59] <|
 .ret
abbrev bHo (P:Program) (F T:Nat→Nat):Prop:=Fn P (F 285) 60 [(4,none)] (c285 F T)
end Go.Ab
namespace Go.Ab
end Go.Ab
namespace Go.Ab
def c281 (F T:Nat→Nat):C :=
 .n [.mov (some 2) (.k (.bool false))] <|
 .n [.m 16 0,.e 17 119 (F 277) [.t 16],.m 15 17,.x 18 0 15,.x 19 1 15,.x 20 2 15,.m 3 18,.m 4 19,.m 5 20] <|
 .n [.m 22 3,.m 23 4,.m 24 5,.c 25 (F 257) [.t 22,.t 23,.t 24],.m 21 25,.x 26 0 21,.x 27 1 21,.alloc 6 (T 27) [(.str []),.nils],.store 2 (.t 6) (.t 26),.m 7 27] <|
 .n [.m 29 3,.m 30 5,.m 31 4,.c 32 (F 257) [.t 29,.t 30,.t 31],.m 28 32,.x 33 0 28,.x 34 1 28,.alloc 8 (T 27) [(.str []),.nils],.store 2 (.t 8) (.t 33),.m 9 34] <|
 .n [.m 36 4,.c 37 (F 272) [.t 36],.m 35 37,.x 38 0 35,.x 39 1 35,.m 10 38,.m 11 39] <|
 .n [.m 41 5,.c 42 (F 272) [.t 41],.m 40 42,.x 43 0 40,.x 44 1 40,.m 12 43,.m 13 44] <|
 .seq (.seq (.ops false [⟨none,[.m 45 7,.bi 46 .neq 45 0,.m 47 46]⟩,
 ⟨some (47,false),[.m 48 9,.bi 49 .neq 48 0]⟩,
 ⟨none,[.pt 50 47 49,.m 51 50]⟩,
 ⟨some (51,false),[.f 52 1 6,.l 53 52,.ll 54 53,.f 55 1 8,.l 56 55,.ll 57 56,.b 58 .neq 54 57]⟩,
 ⟨none,[.pt 59 51 58]⟩]) <|
 .cond (.t 59)
 (.n [.mov (some 2) (.k (.bool false))] <|
 .ret)
 (.skip)) <|
 .seq (.n [.mov (some 14) (.i 0)] <|
 .block 0 <|
 .loop <|
 .seq (.seq (.ops false [⟨none,[.m 60 14,.m 61 10,.ll 62 61,.b 63 .lss 60 62,.m 64 63]⟩,
 ⟨some (64,true),[.m 65 10,.ll 66 65,.m 67 12,.ll 68 67,.b 69 .eql 66 68]⟩,
 ⟨none,[.pf 70 64 69]⟩]) <|
 .cond (.t 70)
 (.skip)
 (.exit 0)) <|
 .seq (.block 1 <|
 .seq (.ops true [⟨none,[.m 73 10,.m 74 14,.ia 75 3 73 74,.f 76 0 75,.l 77 76,.m 78 12,.m 79 14,.ia 80 3 78 79,.f 81 0 80,.l 82 81,.b 83 .neq 77 82,.m 84 83]⟩,
 ⟨some (84,false),[.m 85 10,.m 86 14,.ia 87 3 85 86,.f 88 1 87,.l 89 88,.m 90 12,.m 91 14,.ia 92 3 90 91,.f 93 1 92,.l 94 93,.b 95 .neq 89 94]⟩,
 ⟨none,[.pt 96 84 95]⟩]) <|
 .cond (.t 96)
 (.n [.c 97 (F 254) [],.m 2 97] <|
 .ret)
 (.skip)) <|
 .o [.m 71 14,.bi 72 .add 71 1,.m 14 72]) <|
 .seq (.ops false [⟨none,[.m 98 10,.ll 99 98,.m 100 12,.ll 101 100,.b 102 .neq 99 101,.m 103 102]⟩,
 ⟨some (103,false),[.f 104 1 6,.l 105 104,.ll 106 105,.bi 107 .gtr 106 0]⟩,
 ⟨none,[.pt 108 103 107,.m 109 108]⟩,
 ⟨some (109,false),[.f 110 0 6,.l 111 110,.f 112 0 8,.l 113 112,.b 114 .eql 111 113]⟩,
 ⟨none,[.pt 115 109 114,.m 116 115]⟩,
 ⟨some (116,true),[.c 117 (F 254) []]⟩,
 ⟨none,[.pf 118 116 117,.m 2 118]⟩]) <|
 .ret
abbrev bJ1 (P:Program) (F T:Nat→Nat):Prop:=Fn P (F 281) 119 [(2,none)] (c281 F T)
def c282 (F T:Nat→Nat):C :=
 .n [.mov (some 2) (.k (.bool false))] <|
 .n [.m 21 0,.e 22 104 (F 277) [.t 21],.m 20 22,.x 23 0 20,.x 24 1 20,.x 25 2 20,.m 3 23,.m 4 24,.m 5 25] <|
 .n [.m 27 3,.m 28 4,.m 29 5,.c 30 (F 257) [.t 27,.t 28,.t 29],.m 26 30,.x 31 0 26,.x 32 1 26,.alloc 6 (T 27) [(.str []),.nils],.store 2 (.t 6) (.t 31),.m 7 32] <|
 .n [.m 34 3,.c 35 (F 272) [.t 34],.m 33 35,.x 36 0 33,.x 37 1 33,.m 8 36,.m 9 37] <|
 .n [.m 39 4,.c 40 (F 272) [.t 39],.m 38 40,.x 41 0 38,.x 42 1 38,.m 10 41,.m 11 42] <|
 .n [.m 44 5,.c 45 (F 272) [.t 44],.m 43 45,.x 46 0 43,.x 47 1 43,.m 12 46,.m 13 47] <|
 .seq (.n [.m 48 7,.bi 49 .neq 48 0] <|
 .cond (.t 49)
 (.n [.mov (some 2) (.k (.bool false))] <|
 .ret)
 (.skip)) <|
 .seq (.n [.mov (some 14) (.i 0)] <|
 .block 0 <|
 .loop <|
 .seq (.n [.m 50 14,.f 51 1 6,.l 52 51,.ll 53 52,.b 54 .lss 50 53] <|
 .cond (.t 54)
 (.skip)
 (.exit 0)) <|
 .seq (.block 1 <|
 .n [.mov (some 15) (.k (.bool false))] <|
 .seq (.n [.mov (some 16) (.i 0)] <|
 .block 2 <|
 .loop <|
 .seq (.n [.m 57 16,.bi 58 .lss 57 20] <|
 .cond (.t 58)
 (.skip)
 (.exit 2)) <|
 .seq (.block 3 <|
 .seq (.p [.m 61 8,.f 62 1 6,.l 63 62,.m 64 14,.ia 65 1 63 64,.l 66 65,.m 67 16,.c 68 (F 283) [.t 61,.t 66,.t 67],.m 69 10,.f 70 1 6,.l 71 70,.m 72 14,.ia 73 1 71 72,.l 74 73,.m 75 16,.c 76 (F 283) [.t 69,.t 74,.t 75],.m 77 12,.f 78 1 6,.l 79 78,.m 80 14,.ia 81 1 79 80,.l 82 81,.m 83 16,.c 84 (F 283) [.t 77,.t 82,.t 83],.m 17 68,.m 18 76,.m 19 84]) <|
 .ops false [⟨none,[.m 85 15,.m 86 85]⟩,
 ⟨some (86,false),[.m 87 18,.m 88 19,.b 89 .neq 87 88,.m 90 89]⟩,
 ⟨some (90,true),[.m 91 17,.m 92 18,.b 93 .neq 91 92]⟩,
 ⟨some (86,false),[.pf 94 90 93,.m 95 94]⟩,
 ⟨some (95,true),[.m 96 17,.m 97 19,.b 98 .neq 96 97]⟩,
 ⟨some (86,false),[.pf 99 95 98]⟩,
 ⟨none,[.pt 100 86 99,.m 15 100]⟩]) <|
 .o [.m 59 16,.bi 60 .add 59 1,.m 16 60]) <|
 .n [.m 101 15,.un (some 102) .not (.t 101)] <|
 .cond (.t 102)
 (.n [.mov (some 2) (.k (.bool false))] <|
 .ret)
 (.skip)) <|
 .o [.m 55 14,.bi 56 .add 55 1,.m 14 56]) <|
 .n [.c 103 (F 254) [],.m 2 103] <|
 .ret
abbrev bL8 (P:Program) (F T:Nat→Nat):Prop:=Fn P (F 282) 104 [(2,none)] (c282 F T)
def c283 (F T:Nat→Nat):C :=
 .n [.mov (some 6) (.s [])] <|
 .seq (.n [.mov (some 7) (.i 0)] <|
 .block 0 <|
 .loop <|
 .seq (.n [.m 8 7,.m 9 0,.ll 10 9,.b 11 .lss 8 10] <|
 .cond (.t 11)
 (.skip)
 (.exit 0)) <|
 .seq (.block 1 <|
 .seq (.ops false [⟨none,[.m 14 0,.m 15 7,.ia 16 3 14 15,.f 17 0 16,.l 18 17,.m 19 1,.b 20 .eql 18 19,.m 21 20]⟩,
 ⟨some (21,true),[.m 22 0,.m 23 7,.ia 24 3 22 23,.f 25 1 24,.l 26 25,.m 27 2,.b 28 .eql 26 27]⟩,
 ⟨none,[.pf 29 21 28]⟩]) <|
 .cond (.t 29)
 (.n [.m 30 0,.m 31 7,.ia 32 3 30 31,.f 33 2 32,.l 34 33,.bin (some 35) .add (.s [43]) (.t 34),.m 6 35] <|
 .ret)
 (.skip)) <|
 .o [.m 12 7,.bi 13 .add 12 1,.m 7 13]) <|
 .n [.mov (some 6) (.s [45])] <|
 .ret
abbrev bG3 (P:Program) (F T:Nat→Nat):Prop:=Fn P (F 283) 36 [(6,none)] (c283 F T)
end Go.Ab
namespace Go.Ab
variable {P:Program} {F T:Nat→Nat}
open Go.Lib
theorem t272 (hf:bHf P F T) (h159:aRk P (F 159)) (s:List UInt8) (hs:s.length≤8192):PTr P (F 272) [.str s] (.tup [.lst 3 ((aAc s).map Un.v),.int .i64 0]):=by
 have h1:=h159 s hs
 have hok:=aJy s
 have hpr:=aLy s
 have hcnt:=aPd s
 have hul:=aCt s
 have hun:aAc s=⟨[],0,aI8 s⟩::uGo s [] (aEn s):=rfl
 have hlead:aI8 s=s.take (nxF s (aEn s)):=by
  unfold aI8 nxF
  cases aEn s with
  | nil=>simp
  | cons x r=>rfl
 refine ptrC [] hf (by simp) (by simp [V.imm,V.imms,aCq]) ?_
 simp only [c272,push_cast,seval,-Nat.reducePow]
 refine aAb h1 (by simp only [push_cast,seval,-Nat.reducePow]) (by simp only [push_cast,seval,-Nat.reducePow,aEa]) ?_
 obtain ⟨l,hl⟩:∃ l,l=aEn s:=⟨_,rfl⟩
 rw [← hl] at hok hpr hcnt hun hlead ⊢
 have hlen:=aCw l
 simp only [push_cast,seval,-Nat.reducePow,hlen]
 refine aAs (fun s1=>s1.env 0=.str s∧s1.env 4=.lst 5 (secV l)∧s1.env 6=.int .i64 (nxF s l)) ?_ ?_
 ·cases l with
  | nil=>simp only [push_cast,seval,-Nat.reducePow,nxF,hlen,List.length_nil]
  | cons x r =>
    have h0:(0:Int)<(r.length:Int)+1:=by omega
    have hg:(secV (x::r)).getD 0 .junk=.agg [.int .i64 x.lev,.str x.title,.int .i64 x.fr,.int .i64 x.bd,.int .i64 x.to]:=rfl
    simp only [push_cast,seval,-Nat.reducePow,h0,hlen,nxF,hg]
    omega
 rintro s1 ⟨j0,j4,j6⟩
 have hnx:=bGb hok
 simp only [push_cast,seval,-Nat.reducePow,j0,j4,j6]
 refine ⟨hnx,?_⟩
 refine aAe (fun m s1=>∃ d r out id,l=d++r∧m=r.length∧out++uGo s d r=aAc s∧s1.env 0=.str s∧s1.env 4=.lst 5 (secV l)∧s1.env 8=.int .i64 d.length∧s1.env 7=.own id 3 0 out.length∧s1.L id=some (.vec (T 28) 3 (out.map Un.v))∧id<s1.nx) l.length ⟨[],l,[⟨[],0,aI8 s⟩],s1.nx+33,?_⟩ fun m s1 hJ=>?_
 ·simp only [push_cast,seval,-Nat.reducePow]
  exact ⟨hun.symm,j0,j4,by rw [← hlead]; rfl,by omega⟩
 ·obtain ⟨d,r,out,id,rfl,rfl,ho,j0,j4,j8,j7,jL,hid⟩:=hJ
  cases r with
  | nil =>
    have h':¬ ((d.length:Nat):Int)<((d++[]).length:Nat):=by simp
    rw [uGo,List.append_nil] at ho
    subst ho
    have hlu:=aEu (aAc s)
    have hlend:(secV d).length=d.length:=aCw d
    simp only [push_cast,seval,-Nat.reducePow,j0,j4,j8,j7,hlen,hlend]
    have hv:view s1.L 2 (.own id 3 0 (aAc s).length)=.lst 3 ((aAc s).map Un.v):=by
     have:=aFd (n:=1) (sz:=3) jL (aCq _)
     rwa [aEu] at this
    simp only [view] at hv ⊢
    simp only [List.map_cons,List.map_nil,hv,view]
  | cons x r =>
    have h':((d.length:Nat):Int)<((d++x::r).length:Nat):=by simp; omega
    have hdl:(d++x::r).length=d.length+(r.length+1):=by simp
    simp only [push_cast,seval,-Nat.reducePow,j0,j4,j8,j7,h',hlen]
    refine aAs (fun s2=>s2.env 0=.str s∧s2.env 4=.lst 5 (secV (d++x::r))∧s2.env 8=.int .i64 d.length∧s2.env 7=.own id 3 0 out.length∧s2.L id=some (.vec (T 28) 3 (out.map Un.v))∧id<s2.nx∧s2.env 9=.int .i64 (cntT d x.title)∧s2.env 10=.int .i64 s.length) ?_ ?_
    ·simp only [push_cast,seval,-Nat.reducePow]
     refine aAe (fun m s2=>∃ k,k≤d.length∧m=d.length-k∧s2.env 0=.str s∧s2.env 4=.lst 5 (secV (d++x::r))∧s2.env 8=.int .i64 d.length∧s2.env 7=.own id 3 0 out.length∧s2.L id=some (.vec (T 28) 3 (out.map Un.v))∧id<s2.nx∧s2.env 9=.int .i64 (cntT (d.take k) x.title)∧s2.env 10=.int .i64 s.length∧s2.env 11=.int .i64 k) d.length ⟨0,?_⟩ fun m s2 hJ=>?_
     ·simp only [push_cast,seval,-Nat.reducePow,j0,j4,j8,j7]
      exact ⟨by omega,jL,by omega,rfl⟩
     ·obtain ⟨k,hk,rfl,i0,i4,i8,i7,iL,iid,i9,i10,i11⟩:=hJ
      by_cases h:k<d.length
      ·have h1:((k:Nat):Int)<(d.length:Nat):=by omega
       have hgk:(secV (d++x::r)).getD k .junk=.agg [.int .i64 d[k].lev,.str d[k].title,.int .i64 d[k].fr,.int .i64 d[k].bd,.int .i64 d[k].to]:=by
        simp [secV,List.getD,List.getElem?_append_left,h,Sec.v]
       have htk:d.take (k+1)=d.take k++[d[k]]:=by rw [List.take_add_one]; simp [h]
       have hcl:cntT (d.take k) x.title≤d.length:=by
        unfold cntT
        exact Nat.le_trans (List.length_filter_le _ _) (by rw [List.length_take]; omega)
       simp only [push_cast,seval,-Nat.reducePow,i0,i4,i8,i7,i9,i10,i11,h1,hlen,hgk,aHx,Sec.v]
       refine ⟨by omega,aAh (fun e=>?_) (fun e=>?_)⟩
       ·have hn:cntT (d.take (k+1)) x.title=cntT (d.take k) x.title+1:=by rw [htk,aIx,if_pos e]
        simp only [push_cast,seval,-Nat.reducePow,i0,i4,i8,i7,i9,i10,i11]
        exact ⟨by omega,by omega,d.length-(k+1),by omega,k+1,by omega,rfl,iL,by omega,by rw [hn]; simp,by simp⟩
       ·have hn:cntT (d.take (k+1)) x.title=cntT (d.take k) x.title:=by rw [htk,aIx,if_neg e]; rfl
        simp only [push_cast,seval,-Nat.reducePow,i0,i4,i8,i7,i9,i10,i11]
        exact ⟨by omega,d.length-(k+1),by omega,k+1,by omega,rfl,iL,by omega,by rw [hn],by simp⟩
      ·have h1:¬ ((k:Nat):Int)<(d.length:Nat):=by omega
       obtain rfl:k=d.length:=by omega
       rw [List.take_length] at i9
       simp only [push_cast,seval,-Nat.reducePow,i0,i4,i8,i7,i9,i10,i11,h1]
       exact ⟨iL,by omega⟩
    rintro s2 ⟨i0,i4,i8,i7,iL,iid,i9,i10⟩
    have hx:=hok x (by simp)
    have x1:=hx.bd
    have x2:=hx.le
    have x3:=hx.to
    have hol2:out.length≤8193:=by have:=congrArg List.length ho; rw [List.length_append] at this; omega
    rw [uGo] at ho
    have e1:(((d.length:Nat):Int)+1).toNat=d.length+1:=by omega
    have hnle:x.fr≤nxF s r∧nxF s r≤s.length:=by
     cases r with
     | nil=>simp only [nxF]; omega
     | cons y r2 =>
       have y1:=(List.pairwise_cons.1 (List.pairwise_append.1 hpr).2.1).1 y (by simp)
       have y2:=hok y (by simp)
       have:=y2.bd
       have:=y2.le
       have:=y2.to
       simp only [nxF]
       omega
    simp only [push_cast,seval,-Nat.reducePow]
    refine aAs (fun s3=>s3.env 0=.str s∧s3.env 4=.lst 5 (secV (d++x::r))∧s3.env 8=.int .i64 d.length∧s3.env 7=.own id 3 0 out.length∧s3.L id=some (.vec (T 28) 3 (out.map Un.v))∧id<s3.nx∧s3.env 9=.int .i64 (cntT d x.title)∧s3.env 10=.int .i64 (nxF s r)) ?_ ?_
    ·cases r with
     | nil =>
       have q:¬ ((d.length:Nat):Int)+1<((d++[x]).length:Nat):=by simp
       simp only [push_cast,seval,-Nat.reducePow,i0,i4,i8,i7,i9,i10,hlen,q,nxF]
       exact ⟨by omega,iL,by omega⟩
     | cons y r2 =>
       have q:((d.length:Nat):Int)+1<((d++x::y::r2).length:Nat):=by simp; omega
       simp only [push_cast,seval,-Nat.reducePow,i0,i4,i8,i7,i9,i10,hlen,q,nxF,e1,aT8,Sec.v]
       exact ⟨by omega,by omega,by omega,by omega,iL,by omega⟩
    rintro s3 ⟨k0,k4,k8,k7,kL,kid,k9,k10⟩
    have hlo:=aEu out
    simp only [push_cast,seval,-Nat.reducePow,k0,k4,k8,k7,k9,k10,hlen,aHx,Sec.v,kL,hlo]
    refine ⟨by omega,by omega,by omega,by omega,r.length,by omega,d++[x],r,out++[⟨x.title,cntT d x.title,(s.take (nxF s r)).drop x.fr⟩],s3.nx+88,by simp,rfl,by rw [← ho]; simp,by simp,by simp,?_,by omega⟩
    rw [aAf,List.map_append,List.take_of_length_le (by rw [hlo]; exact Nat.le_refl _)]
    rfl
theorem aUj {f:Nat} {args:List V} {r:V} {sz:Nat} {es:List V} (i:Nat) (hi:args[i]?=some (.lst sz es)) (h:es.length<2^63→PTr P f args r):PTr P f args r:=by
 intro D w vs hD hg hn hr
 have h0:=hr i _ hi
 have hl:es.length<2^63:=by
  revert h0
  generalize vs.getD i undef=v
  intro h0
  cases h0
  omega
 exact h hl D w vs hD hg hn hr
end Go.Ab
