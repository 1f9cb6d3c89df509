/- Several texts of one kind, merged. No condition. -/
import Derived.Test.YtdnhjbdnebokiaaGreatDoorAbP2
import Derived.Test.YtdnhjbdnebokiaaGreatDoorAbP1
set_option linter.unusedSimpArgs false
set_option linter.unusedVariables false
namespace Go.Ab
def lenT:List Tok→Nat
 | []=>0
 | t::r=>(t.to-t.fr)+lenT r
theorem aJb (a b:List Tok):lenT (a++b)=lenT a+lenT b:=by
 induction a with
 | nil=>simp [lenT]
 | cons x r ih=>simp [lenT,ih]; omega
theorem bCd {s:List UInt8} {st:List El}:runF s [] st=st:=rfl
theorem aX7 {s:List UInt8} {a:List Tok} {t:Tok} {st:List El}:runF s (a++[t]) st=aEl s t (runF s a st):=by simp [runF,List.foldl_append]
end Go.Ab
namespace Go.Ab
variable {P:Program} {F T:Nat→Nat}
def tvs (l:List Tok):List V:=l.map fun t=>.agg t.vs
theorem aFv (l:List Tok):(tvs l).length=l.length:=by simp [tvs]
theorem aM8 (l:List Tok):V.imms (tvs l)=true:=aE0 _ _ fun t=>by simp [Tok.vs,V.imm,V.imms]
theorem bIo (a:List Tok) (t:Tok) (r:List Tok):(tvs (a++t::r)).getD a.length .junk=.agg t.vs:=by
 simp only [tvs,List.map_append,List.map_cons]
 exact aEr (by simp)
attribute [push_cast] aFv aM8 bIo
theorem aJ1 {L:Heap} {i ty z sz:Nat} {es:List V} (h:L i=some (.vec ty z es)) (hi:V.imms es=true):view L 2 (.own i sz 0 es.length)=.lst sz es:=by
 simp only [view,h,Nat.zero_add,Nat.le_refl,if_true,List.drop_zero,List.take_length]
 rw [show es.map (view L 1)=es.map id from List.map_congr_left fun x hx=>aHf 1 x (aBo hi hx),List.map_id]
end Go.Ab
namespace Go.Ab
def c56 (F T:Nat→Nat):C :=
 .n [.mov (some 2) (.k .nils),.mov (some 3) (.i 0)] <|
 .seq (.n [.m 9 0,.ls 10 9,.bi 11 .gtr 10 8192] <|
 .cond (.t 11)
 (.n [.mov (some 2) (.k .nils),.mov (some 3) (.i 3)] <|
 .ret)
 (.skip)) <|
 .seq (.gha (.own 4 (T 8) 3) <| .o [.mov (some 4) (.k .nils)]) <|
 .n [.mov (some 5) (.i 0)] <|
 .seq (.n [.mov (some 6) (.i 0)] <|
 .block 0 <|
 .loop <|
 .seq (.n [.m 12 6,.m 13 0,.ls 14 13,.b 15 .lss 12 14] <|
 .cond (.t 15)
 (.skip)
 (.exit 0)) <|
 .block 1 <|
 .n [.m 17 0,.m 18 6,.slcS (some 19) (.t 17) (some (.t 18)) none,.c 20 (F 67) [.t 19],.m 16 20,.x 21 0 16,.x 22 1 16,.m 7 21,.m 8 22] <|
 .seq (.n [.m 23 7,.bi 24 .eql 23 0] <|
 .cond (.t 24)
 (.n [.m 25 6,.bi 26 .add 25 1,.m 6 26] <|
 .exit 1)
 (.skip)) <|
 .seq (.n [.m 27 5,.m 28 6,.b 29 .lss 27 28] <|
 .cond (.t 29)
 (.o [.m 30 4,.m 31 5,.m 32 6,.build (some 33) [(.int .i64 0),(.int .i64 0),(.int .i64 0)] [(0,1,(.i 1)),(1,1,(.t 31)),(2,1,(.t 32))],.mkl (some 34) 3 [.t 33],.app 35 (T 8) 3 (.t 30) (.t 34),.m 4 35])
 (.skip)) <|
 .n [.m 36 4,.m 37 7,.m 38 6,.m 39 6,.m 40 8,.b 41 .add 39 40,.build (some 42) [(.int .i64 0),(.int .i64 0),(.int .i64 0)] [(0,1,(.t 37)),(1,1,(.t 38)),(2,1,(.t 41))],.mkl (some 43) 3 [.t 42],.app 44 (T 8) 3 (.t 36) (.t 43),.m 4 44] <|
 .n [.m 45 6,.m 46 8,.b 47 .add 45 46,.m 6 47] <|
 .o [.m 48 6,.m 5 48]) <|
 .seq (.n [.m 49 5,.m 50 0,.ls 51 50,.b 52 .lss 49 51] <|
 .cond (.t 52)
 (.o [.m 53 4,.m 54 5,.m 55 0,.ls 56 55,.build (some 57) [(.int .i64 0),(.int .i64 0),(.int .i64 0)] [(0,1,(.i 1)),(1,1,(.t 54)),(2,1,(.t 56))],.mkl (some 58) 3 [.t 57],.app 59 (T 8) 3 (.t 53) (.t 58),.m 4 59])
 (.skip)) <|
 .n [.m 60 4,.m 2 60,.mov (some 3) (.i 0)] <|
 .ret
abbrev Is56 (P:Program) (F T:Nat→Nat):Prop:=Fn P (F 56) 61 [(2,none),(3,none)] (c56 F T)
def c67 (F T:Nat→Nat):C :=
 .n [.mov (some 2) (.i 0),.mov (some 3) (.i 0)] <|
 .seq (.n [.m 6 0,.idx (some 7) (.t 6) (.i 0)] <|
 .block 0 <|
 .n [.bin (some 9) .eql (.t 7) (.k (.int .u8 60)),.m 8 9] <|
 .cond (.t 8)
 (.n [.m 10 0,.c 11 (F 104) [.t 10],.x 12 0 11,.x 13 1 11,.m 2 12,.m 3 13] <|
 .ret)
 (.n [.bin (some 15) .eql (.t 7) (.k (.int .u8 123)),.m 14 15] <|
 .cond (.t 14)
 (.n [.m 16 0,.c 17 (F 105) [.t 16,(.k (.int .u8 123))],.m 4 17] <|
 .n [.m 18 4,.bi 19 .geq 18 2] <|
 .cond (.t 19)
 (.n [.m 20 4,.mov (some 2) (.i 3),.m 3 20] <|
 .ret)
 (.skip))
 (.n [.bin (some 22) .eql (.t 7) (.k (.int .u8 125)),.m 21 22] <|
 .cond (.t 21)
 (.n [.m 23 0,.c 24 (F 105) [.t 23,(.k (.int .u8 125))],.m 5 24] <|
 .n [.m 25 5,.bi 26 .geq 25 2] <|
 .cond (.t 26)
 (.n [.m 27 5,.mov (some 2) (.i 4),.m 3 27] <|
 .ret)
 (.skip))
 (.n [.bin (some 29) .eql (.t 7) (.k (.int .u8 91)),.m 28 29] <|
 .cond (.t 28)
 (.n [.m 30 0,.c 31 (F 105) [.t 30,(.k (.int .u8 91))],.bi 32 .geq 31 2] <|
 .cond (.t 32)
 (.n [.mov (some 2) (.i 5),.mov (some 3) (.i 2)] <|
 .ret)
 (.skip))
 (.n [.bin (some 34) .eql (.t 7) (.k (.int .u8 93)),.m 33 34] <|
 .cond (.t 33)
 (.n [.m 35 0,.c 36 (F 105) [.t 35,(.k (.int .u8 93))],.bi 37 .geq 36 2] <|
 .cond (.t 37)
 (.n [.mov (some 2) (.i 6),.mov (some 3) (.i 2)] <|
 .ret)
 (.skip))
 (.n [.bin (some 39) .eql (.t 7) (.k (.int .u8 124)),.m 38 39] <|
 .cond (.t 38)
 (.n [.mov (some 2) (.i 7),.mov (some 3) (.i 1)] <|
 .ret)
 (.n [.bin (some 41) .eql (.t 7) (.k (.int .u8 61)),.m 40 41] <|
 .cond (.t 40)
 (.n [.mov (some 2) (.i 8),.mov (some 3) (.i 1)] <|
 .ret)
 (.n [.bin (some 43) .eql (.t 7) (.k (.int .u8 10)),.m 42 43] <|
 .cond (.t 42)
 (.n [.mov (some 2) (.i 2),.mov (some 3) (.i 1)] <|
 .ret)
 (.skip))))))))) <|
 .n [.mov (some 2) (.i 0),.mov (some 3) (.i 0)] <|
 .ret
abbrev Is67 (P:Program) (F T:Nat→Nat):Prop:=Fn P (F 67) 44 [(2,none),(3,none)] (c67 F T)
def c68 (F T:Nat→Nat):C :=
 .n [.box 3 (T 8) (.t 1),.mov (some 4) (.s [])] <|
 .seq (.seq (.ops false [⟨none,[.f 5 1 3,.l 6 5,.bi 7 .lss 6 0,.m 8 7]⟩,
 ⟨some (8,false),[.f 9 1 3,.l 10 9,.f 11 2 3,.l 12 11,.b 13 .gtr 10 12]⟩,
 ⟨none,[.pt 14 8 13,.m 15 14]⟩,
 ⟨some (15,false),[.f 16 2 3,.l 17 16,.m 18 0,.ls 19 18,.b 20 .gtr 17 19]⟩,
 ⟨none,[.pt 21 15 20]⟩]) <|
 .cond (.t 21)
 (.n [.mov (some 4) (.s [])] <|
 .ret)
 (.skip)) <|
 .n [.m 22 0,.f 23 1 3,.l 24 23,.f 25 2 3,.l 26 25,.slcS (some 27) (.t 22) (some (.t 24)) (some (.t 26)),.m 4 27] <|
 .ret
abbrev Is68 (P:Program) (F T:Nat→Nat):Prop:=Fn P (F 68) 28 [(4,none)] (c68 F T)
def c105 (F T:Nat→Nat):C :=
 .n [.mov (some 4) (.i 0)] <|
 .n [.mov (some 5) (.i 0)] <|
 .seq (.block 0 <|
 .loop <|
 .seq (.seq (.ops false [⟨none,[.m 6 5,.m 7 0,.ls 8 7,.b 9 .lss 6 8,.m 10 9]⟩,
 ⟨some (10,true),[.m 11 0,.m 12 5,.ix 13 11 12,.m 14 1,.b 15 .eql 13 14]⟩,
 ⟨none,[.pf 16 10 15]⟩]) <|
 .cond (.t 16)
 (.skip)
 (.exit 0)) <|
 .block 1 <|
 .o [.m 17 5,.bi 18 .add 17 1,.m 5 18]) <|
 .n [.m 19 5,.m 4 19] <|
 .ret
abbrev bOj (P:Program) (F T:Nat→Nat):Prop:=Fn P (F 105) 20 [(4,none)] (c105 F T)
def c116 (F T:Nat→Nat):C :=
 .n [.alloc 0 (T 13) [(.str []),(.str []),(.str [])]] <|
 .n [.build (some 1) [(.str []),(.str []),(.str [])] [(0,1,(.s [110,111,105,110,99,108,117,100,101])),(1,1,(.s [105,110,99,108,117,100,101,111,110,108,121])),(2,1,(.s [111,110,108,121,105,110,99,108,117,100,101]))],.store 3 (.t 0) (.t 1)] <|
 .ret
abbrev bPe (P:Program) (F T:Nat→Nat):Prop:=Fn P (F 116) 2 [(0,(some (3,true)))] (c116 F T)
end Go.Ab
namespace Go.Ab
variable {P:Program} {F T:Nat→Nat}
theorem aZ7 (c:UInt8) (s:List UInt8) (n:Nat) (hn:n<s.length) (hc:s.getD n 0=c) (h:runL c s=n+runL c (s.drop n)):runL c s=(n+1)+runL c (s.drop (n+1)):=by
 rw [h,List.drop_eq_getElem_cons hn]
 have:s[n]=c:=by simpa [List.getD,hn] using hc
 simp [runL,this]; omega
theorem aLu {a b:UInt8} (h:((a.toNat:Nat):Int)=((b.toNat:Nat):Int)):a=b:=UInt8.toNat_inj.1 (by omega)
theorem t105 (hf:bOj P F T) (s:List UInt8) (c:UInt8) (hs:s.length<2^62):PTr P (F 105) [.str s,.int .u8 c.toNat] (.int .i64 (runL c s)):=by
 refine ptrC [] hf (by simp) rfl ?_
 simp only [c105,push_cast,seval,-Nat.reducePow]
 refine aAl (fun m s1=>∃ n,n≤s.length∧m=s.length-n∧s1.env 0=.str s∧s1.env 1=.int .u8 c.toNat∧s1.env 5=.int .i64 n∧runL c s=n+runL c (s.drop n)) s.length ⟨0,?_⟩ fun m s1 hJ=>?_
 ·simp only [push_cast,seval,-Nat.reducePow,Nat.sub_zero,List.drop_zero]
 ·obtain ⟨n,hn,rfl,j0,j1,j5,hr⟩:=hJ
  simp only [push_cast,seval,-Nat.reducePow,j0,j1,j5]
  refine aAk (fun h=>?_) (fun h=>?_)
  ·have h':n<s.length:=by omega
   simp only [push_cast,seval,-Nat.reducePow,j0,j1,j5]
   refine ⟨by omega,?_⟩
   refine aAk (fun hc=>?_) (fun hc=>?_)
   ·have hc':=aLu hc
    simp only [push_cast,seval,-Nat.reducePow,j0,j1,j5]
    refine ⟨by omega,s.length-(n+1),by omega,n+1,by omega,rfl,by simp,?_⟩
    exact aZ7 c s n h' hc' hr
   ·simp only [push_cast,seval,-Nat.reducePow,j0,j1,j5,view]
    have hne:s[n]≠c:=fun e=>hc (by rw [show s.getD n 0=s[n] by simp [List.getD,h'],e])
    rw [hr,List.drop_eq_getElem_cons h']
    simp [runL,hne]
  ·have h':n=s.length:=by omega
   simp only [push_cast,seval,-Nat.reducePow,j0,j1,j5,view]
   rw [hr,h',List.drop_length]
   simp [runL]
theorem t116 (hf:bPe P F T):PTr P (F 116) [] (.agg [.str (aA9 1),.str (aA9 2),.str (aA9 3)]):=by
 refine ptrC [] hf (by simp) rfl ?_
 simp only [c116,push_cast,seval,-Nat.reducePow]
 simp [view,aA9]
def aU6 (q:Nat×Nat):V:=.tup [.int .i64 q.1,.int .i64 q.2]
theorem t68 (hf:Is68 P F T) (s:List UInt8) (t:Tok) (h1:t.fr≤t.to) (h2:t.to≤s.length) (h3:s.length≤8192):PTr P (F 68) [.str s,.agg t.vs] (.str (t.text s)):=by
 refine ptrC [] hf (by simp) rfl ?_
 have e1:¬ ((t.fr:Nat):Int)<0:=by omega
 have e2:¬ ((t.to:Nat):Int)<(t.fr:Nat):=by omega
 have e3:¬ ((s.length:Nat):Int)<(t.to:Nat):=by omega
 simp only [c68,push_cast,seval,-Nat.reducePow,Tok.vs,e1,e2,e3]
 exact ⟨by omega,by omega,rfl⟩
end Go.Ab
namespace Go.Ab
variable {P:Program} {F T:Nat→Nat}
theorem bGp (k:Nat) (a:1≤k) (b:k≤3):aNv tagO (tagO k)=k:=by
 obtain rfl | rfl | rfl:k=1∨k=2∨k=3:=by omega
 all_goals simp [aNv,tagO,aA9]
end Go.Ab
namespace Go.Ab
structure Fst (s:List UInt8) (q:Nat×Nat):Prop where
 pos:1≤q.2
 le:q.2≤s.length
 kind:2≤q.1∧q.1≤12
 wiki:q.1=10→17≤q.2∧aWc.isPrefixOf s=true∧aXc.isPrefixOf (s.drop (q.2-9))=true
 open_:q.1=3→2≤q.2∧s.take q.2=List.replicate q.2 123
 close:q.1=4→2≤q.2∧s.take q.2=List.replicate q.2 125
 tagO:q.1=11→∃ k,1≤k∧k≤3∧s.take q.2=tagO k
 tagC:q.1=12→∃ k,1≤k∧k≤3∧s.take q.2=tagC k
 link:q.1=5→s.take q.2=[91,91]
 linkC:q.1=6→s.take q.2=[93,93]
 bar:q.1=7→s.take q.2=[124]
 eq:q.1=8→s.take q.2=[61]
structure Tok.good (s:List UInt8) (t:Tok):Prop where
 lt:t.fr<t.to
 le:t.to≤s.length
 txt:t.kind=1∨Fst (s.drop t.fr) (t.kind,t.to-t.fr)
theorem Tok.text_eq {s:List UInt8} {t:Tok}:t.text s=(s.drop t.fr).take (t.to-t.fr):=by
 simp [Tok.text,List.drop_take]
theorem Tok.good.tagO {s:List UInt8} {t:Tok} (h:t.good s) (hk:t.kind=11):∃ k,1≤k∧k≤3∧t.text s=Go.Ab.tagO k:=by
 rcases h.txt with h1 | h1
 ·omega
 ·obtain ⟨k,a,b,c⟩:=h1.tagO hk
  exact ⟨k,a,b,by rw [Tok.text_eq]; exact c⟩
theorem Tok.good.tagC {s:List UInt8} {t:Tok} (h:t.good s) (hk:t.kind=12):∃ k,1≤k∧k≤3∧t.text s=Go.Ab.tagC k:=by
 rcases h.txt with h1 | h1
 ·omega
 ·obtain ⟨k,a,b,c⟩:=h1.tagC hk
  exact ⟨k,a,b,by rw [Tok.text_eq]; exact c⟩
theorem Tok.good.wf {s:List UInt8} {t:Tok} (h:t.good s):t.wf s:=by
 have hl:=Tok.text_length h.le
 refine ⟨?_,h.lt,h.le,fun hk=>?_,fun hk=>?_,fun hk=>?_,h.tagO,h.tagC⟩
 ·rcases h.txt with h | h
  ·omega
  ·exact ⟨by have:=h.kind.1; simp at this; omega,h.kind.2⟩
 ·rcases h.txt with h1 | h1
  ·omega
  ·have:=(h1.wiki hk).1; simp at this; omega
 ·rcases h.txt with h1 | h1
  ·omega
  ·obtain ⟨k,a,b,c⟩:=h1.tagO hk
   have:t.tag s=k:=by
    rw [Tok.tag,if_pos hk,Tok.text_eq]
    simp only at c
    rw [c]; exact bGp k a b
   omega
 ·rcases h.txt with h1 | h1
  ·omega
  ·have:=(h1.open_ hk).1; simp at this; omega
end Go.Ab
namespace Go.Ab
variable {P:Program} {F T:Nat→Nat}
theorem aIx (a:List Tok) (t:Tok):tvs (a++[t])=tvs a++[.agg t.vs]:=by simp [tvs]
end Go.Ab
