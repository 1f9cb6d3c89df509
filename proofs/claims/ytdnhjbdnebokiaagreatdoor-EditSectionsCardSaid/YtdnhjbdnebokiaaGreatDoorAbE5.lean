/- Several texts of one kind, merged. No condition. -/
import Derived.Test.YtdnhjbdnebokiaaGreatDoorAbE4
set_option linter.unusedSimpArgs false
set_option linter.unusedVariables false
namespace Go.Ab
mutual
inductive Node where
 | mk (kind tag:Int) (text:List UInt8) (kids:List Node) (args:List Arg)
inductive Arg where
 | mk (named:Bool) (name value:List Node)
end
mutual
def Node.cs:Node→List V
 | .mk k t s ks as=>[.int .i64 k,.int .i64 t,.str s,.lst 5 (encs ks),.lst 3 (encA as)]
def encs:List Node→List V
 | []=>[]
 | n::r=>.agg n.cs::encs r
def Arg.cs:Arg→List V
 | .mk b n v=>[.bool b,.lst 5 (encs n),.lst 5 (encs v)]
def encA:List Arg→List V
 | []=>[]
 | n::r=>.agg n.cs::encA r
end
mutual
def Node.bulk:Node→Nat
 | .mk k t s ks as=>s.length+aA4 ks+aCl as+1
def aA4:List Node→Nat
 | []=>0
 | n::r=>n.bulk+aA4 r
def Arg.bulk:Arg→Nat
 | .mk b n v=>aA4 n+aA4 v+1
def aCl:List Arg→Nat
 | []=>0
 | n::r=>n.bulk+aCl r
end
mutual
def Node.count:Node→Nat
 | .mk k t s ks as=>aSu ks+bE2 as+1
def aSu:List Node→Nat
 | []=>0
 | n::r=>n.count+aSu r
def Arg.count:Arg→Nat
 | .mk b n v=>aSu n+aSu v
def bE2:List Arg→Nat
 | []=>0
 | n::r=>n.count+bE2 r
end
def aA9 (t:Int):List UInt8:=if t=1 then [110,111,105,110,99,108,117,100,101] else if t=2 then [105,110,99,108,117,100,101,111,110,108,121] else if t=3 then [111,110,108,121,105,110,99,108,117,100,101] else []
mutual
def Node.src:Node→List UInt8
 | .mk k t s ks as =>
   if k=1∨k=2 then s
   else if k=3 then [60,110,111,119,105,107,105,62]++s++[60,47,110,111,119,105,107,105,62]
   else if k=4 then [123,123]++srcs ks++srcA as++[125,125]
   else if k=5 then [123,123,123]++srcs ks++srcA as++[125,125,125]
   else if k=6∧1≤t∧t≤3 then [60]++aA9 t++[62]++srcs ks++[60,47]++aA9 t++[62]
   else []
def srcs:List Node→List UInt8
 | []=>[]
 | n::r=>n.src++srcs r
def Arg.src:Arg→List UInt8
 | .mk b n v=>124::((if b then srcs n++[61] else [])++srcs v)
def srcA:List Arg→List UInt8
 | []=>[]
 | n::r=>n.src++srcA r
end
def aB7 (out:List Node) (s:List UInt8):List Node :=
 match out.getLast? with
 | some (.mk k _ q _ _)=>if k=1 then out.dropLast++[.mk 1 0 (q++s) [] []] else out++[.mk 1 0 s [] []]
 | none=>out++[.mk 1 0 s [] []]
mutual
def Node.jn:Node→Node
 | .mk k t s ks as=>.mk k t s (aDl [] ks) (bFj as)
def aDl:List Node→List Node→List Node
 | out,[]=>out
 | out,n::r=>aDl (n.jstep out) r
def Node.jstep:Node→List Node→List Node
 | .mk k t s ks as,out=>if k=1 then (if s=[] then out else aB7 out s) else out++[.mk k t s (aDl [] ks) (bFj as)]
def Arg.jn:Arg→Arg
 | .mk b n v=>.mk b (aDl [] n) (aDl [] v)
def bFj:List Arg→List Arg
 | []=>[]
 | n::r=>n.jn::bFj r
end
theorem aRv (a b:List Node):encs (a++b)=encs a++encs b:=by
 induction a with
 | nil=>rfl
 | cons x r ih=>simp [encs,ih]
theorem aJl (a:List Node):(encs a).length=a.length:=by
 induction a with
 | nil=>rfl
 | cons x r ih=>simp [encs,ih]
theorem aQc (a b:List Arg):encA (a++b)=encA a++encA b:=by
 induction a with
 | nil=>rfl
 | cons x r ih=>simp [encA,ih]
theorem aJj (a:List Arg):(encA a).length=a.length:=by
 induction a with
 | nil=>rfl
 | cons x r ih=>simp [encA,ih]
theorem aX4 (a:List Node) (x:Node) (r:List Node):(encs (a++x::r)).getD a.length .junk=.agg x.cs:=by
 rw [aRv,← aJl a,List.getD_eq_getElem?_getD,List.getElem?_append_right (Nat.le_refl _)]; simp [encs]
theorem bFn (a:List Arg) (x:Arg) (r:List Arg):(encA (a++x::r)).getD a.length .junk=.agg x.cs:=by
 rw [aQc,← aJj a,List.getD_eq_getElem?_getD,List.getElem?_append_right (Nat.le_refl _)]; simp [encA]
mutual
theorem bGt:∀ n:Node,V.imms n.cs=true
 | .mk k t s ks as=>by simp [Node.cs,V.imms,V.imm,aDt ks,aJ5 as]
theorem aDt:∀ l:List Node,V.imms (encs l)=true
 | []=>by simp [encs,V.imms]
 | n::r=>by simp [encs,V.imms,V.imm,bGt n,aDt r]
theorem bA7:∀ n:Arg,V.imms n.cs=true
 | .mk b n v=>by simp [Arg.cs,V.imms,V.imm,aDt n,aDt v]
theorem aJ5:∀ l:List Arg,V.imms (encA l)=true
 | []=>by simp [encA,V.imms]
 | n::r=>by simp [encA,V.imms,V.imm,bA7 n,aJ5 r]
end
theorem aBk (a b:List Node):aA4 (a++b)=aA4 a+aA4 b:=by
 induction a with
 | nil=>simp [aA4]
 | cons x r ih=>simp [aA4,ih]; omega
theorem aC8 (a b:List Arg):aCl (a++b)=aCl a+aCl b:=by
 induction a with
 | nil=>simp [aCl]
 | cons x r ih=>simp [aCl,ih]; omega
theorem aJe (a b:List Node):srcs (a++b)=srcs a++srcs b:=by
 induction a with
 | nil=>simp [srcs]
 | cons x r ih=>simp [srcs,ih]
theorem aEx (a b:List Arg):srcA (a++b)=srcA a++srcA b:=by
 induction a with
 | nil=>simp [srcA]
 | cons x r ih=>simp [srcA,ih]
theorem aEh:∀ l:List Node,l.length≤aA4 l
 | []=>by simp
 | .mk k t s ks as::r=>by have:=aEh r; simp [aA4,Node.bulk]; omega
theorem aJv:∀ l:List Arg,l.length≤aCl l
 | []=>by simp
 | .mk b n v::r=>by have:=aJv r; simp [aCl,Arg.bulk]; omega
theorem aGn (t:Int):(aA9 t).length≤11:=by unfold aA9; split <;> (try split) <;> (try split) <;> simp
mutual
theorem bCq:∀ n:Node,n.src.length≤27*n.bulk
 | .mk k t s ks as=>by
   have h1:=aBj ks; have h2:=aFk as; have h3:=aGn t
   unfold Node.src Node.bulk
   split
   ·omega
   ·split
    ·simp; omega
    ·split
     ·simp; omega
     ·split
      ·simp; omega
      ·split
       ·simp; omega
       ·simp
theorem aBj:∀ l:List Node,(srcs l).length≤27*aA4 l
 | []=>by simp [srcs]
 | n::r=>by have:=bCq n; have:=aBj r; simp [srcs,aA4]; omega
theorem aXi:∀ n:Arg,n.src.length≤27*n.bulk
 | .mk b n v=>by have:=aBj n; have:=aBj v; cases b <;> simp [Arg.src,Arg.bulk] <;> omega
theorem aFk:∀ l:List Arg,(srcA l).length≤27*aCl l
 | []=>by simp [srcA]
 | n::r=>by have:=aXi n; have:=aFk r; simp [srcA,aCl]; omega
end
attribute [push_cast] aJl aJj aDt aJ5 aX4 bFn
end Go.Ab
namespace Go.Ab
def c30 (F T:Nat→Nat):C :=
 .gh (.bopen 0) <| .gha (.bclose 0 (T 3)) <|
 .n [.m 2 0,.nchk (some 3) (.t 2),.f 4 0 3,.l 5 4,.isnil (some 6) false 0 (.t 5)] <|
 .cond (.t 6)
 (.o [.m 7 0,.m 8 0,.touns (some 9) (.t 8),.m 10 9,.frouns (some 11) (T 2) 2 (.t 10),.nchk (some 12) (.t 7),.f 13 0 12,.store 1 (.t 13) (.t 11)])
 (.n [.m 14 0,.nchk (some 15) (.t 14),.f 16 0 15,.l 17 16,.m 18 0,.ptreq (some 19) true (.t 17) (.t 18)] <|
 .cond (.t 19)
 (.bad)
 (.skip))
abbrev Is30 (P:Program) (F T:Nat→Nat):Prop:=Fn P (F 30) 20 [] (c30 F T)
def c27 (F T:Nat→Nat):C :=
 .n [.mov (some 4) (.i 0),.mov (some 5) (.k (.raw .nilIface))] <|
 .n [.m 6 0,.e 7 19 (F 30) [.t 6]] <|
 .seq (.gh (.bopen 0) <| .gha (.bclose 0 (T 3)) <| .o [.m 8 0,.m 9 0,.nchk (some 10) (.t 9),.f 11 1 10,.l 12 11,.m 13 1,.app 14 (T 3) 1 (.t 12) (.t 13),.nchk (some 15) (.t 8),.f 16 1 15,.store 1 (.t 16) (.t 14)]) <|
 .n [.m 17 1,.ls 18 17,.m 4 18,.mov (some 5) (.k (.raw .nilIface))] <|
 .ret
abbrev Is27 (P:Program) (F T:Nat→Nat):Prop:=Fn P (F 27) 19 [(4,none),(5,none)] (c27 F T)
def c33 (F T:Nat→Nat):C :=
 .n [.mov (some 4) (.k (.raw .nilIface))] <|
 .n [.m 5 0,.e 6 17 (F 30) [.t 5]] <|
 .seq (.gh (.bopen 0) <| .gha (.bclose 0 (T 3)) <| .o [.m 7 0,.m 8 0,.nchk (some 9) (.t 8),.f 10 1 9,.l 11 10,.m 12 1,.mkl (some 13) 1 [.t 12],.app 14 (T 3) 1 (.t 11) (.t 13),.nchk (some 15) (.t 7),.f 16 1 15,.store 1 (.t 16) (.t 14)]) <|
 .n [.mov (some 4) (.k (.raw .nilIface))] <|
 .ret
abbrev Is33 (P:Program) (F T:Nat→Nat):Prop:=Fn P (F 33) 17 [(4,none)] (c33 F T)
def c23 (F T:Nat→Nat):C :=
 .n [.mov (some 2) (.s [])] <|
 .seq (.gh (.bopen 0) <| .p [.m 3 0,.nchk (some 4) (.t 3),.f 5 1 4,.l 6 5,.sdata (some 7) (.t 6),.m 8 0,.nchk (some 9) (.t 8),.f 10 1 9,.l 11 10,.ll 12 11,.ustr (some 13) (T 3) (.t 7) (.t 12),.m 2 13]) <|
 .ret
abbrev Is23 (P:Program) (F T:Nat→Nat):Prop:=Fn P (F 23) 14 [(2,none)] (c23 F T)
def c32 (F T:Nat→Nat):C :=
 .n [.mov (some 2) (.s [])] <|
 .seq (.n [.m 3 0] <|
 .block 0 <|
 .n [.bi 5 .eql 3 1,.m 4 5] <|
 .cond (.t 4)
 (.n [.mov (some 2) (.s [110,111,105,110,99,108,117,100,101])] <|
 .ret)
 (.n [.bi 7 .eql 3 2,.m 6 7] <|
 .cond (.t 6)
 (.n [.mov (some 2) (.s [105,110,99,108,117,100,101,111,110,108,121])] <|
 .ret)
 (.n [.bi 9 .eql 3 3,.m 8 9] <|
 .cond (.t 8)
 (.n [.mov (some 2) (.s [111,110,108,121,105,110,99,108,117,100,101])] <|
 .ret)
 (.skip)))) <|
 .n [.mov (some 2) (.s [])] <|
 .ret
abbrev Is32 (P:Program) (F T:Nat→Nat):Prop:=Fn P (F 32) 10 [(2,none)] (c32 F T)
def c29 (F T:Nat→Nat):C :=
 .n [.box 3 (T 0) (.t 1)] <|
 .n [.f 5 0 3,.l 6 5] <|
 .block 0 <|
 .seq (.n [.bi 8 .eql 6 1,.m 7 8] <|
 .cond (.t 7)
 (.skip)
 (.o [.bi 9 .eql 6 2,.m 7 9])) <|
 .cond (.t 7)
 (.o [.m 10 0,.f 11 2 3,.l 12 11,.e 13 53 (F 27) [.t 10,.t 12]])
 (.n [.bi 15 .eql 6 3,.m 14 15] <|
 .cond (.t 14)
 (.o [.m 16 0,.f 17 2 3,.l 18 17,.bin (some 19) .add (.s [60,110,111,119,105,107,105,62]) (.t 18),.bin (some 20) .add (.t 19) (.s [60,47,110,111,119,105,107,105,62]),.e 21 53 (F 27) [.t 16,.t 20]])
 (.n [.bi 23 .eql 6 4,.m 22 23] <|
 .cond (.t 22)
 (.o [.m 24 0,.load (some 25) false 5 true (.t 3),.e 26 53 (F 31) [.t 24,.t 25,.i 2]])
 (.n [.bi 28 .eql 6 5,.m 27 28] <|
 .cond (.t 27)
 (.o [.m 29 0,.load (some 30) false 5 true (.t 3),.e 31 53 (F 31) [.t 29,.t 30,.i 3]])
 (.n [.bi 33 .eql 6 6,.m 32 33] <|
 .cond (.t 32)
 (.n [.f 34 1 3,.l 35 34,.c 36 (F 32) [.t 35],.m 4 36] <|
 .seq (.n [.m 37 4,.bin (some 38) .eql (.t 37) (.s [])] <|
 .cond (.t 38)
 (.ret)
 (.skip)) <|
 .n [.m 39 0,.m 40 4,.bin (some 41) .add (.s [60]) (.t 40),.bin (some 42) .add (.t 41) (.s [62]),.e 43 53 (F 27) [.t 39,.t 42]] <|
 .n [.m 44 0,.f 45 3 3,.l 46 45,.e 47 53 (F 22) [.t 44,.t 46]] <|
 .o [.m 48 0,.m 49 4,.bin (some 50) .add (.s [60,47]) (.t 49),.bin (some 51) .add (.t 50) (.s [62]),.e 52 53 (F 27) [.t 48,.t 51]])
 (.skip)))))
abbrev Is29 (P:Program) (F T:Nat→Nat):Prop:=Fn P (F 29) 53 [] (c29 F T)
def c31 (F T:Nat→Nat):C :=
 .n [.box 4 (T 0) (.t 1)] <|
 .n [.m 8 0,.m 9 2,.slcS (some 10) (.s [123,123,123]) none (some (.t 9)),.e 11 42 (F 27) [.t 8,.t 10]] <|
 .n [.m 12 0,.f 13 3 4,.l 14 13,.e 15 42 (F 22) [.t 12,.t 14]] <|
 .seq (.n [.f 16 4 4,.l 17 16,.ll 18 17,.mov (some 19) (.i 0)] <|
 .block 0 <|
 .loop <|
 .n [.b 20 .lss 19 18] <|
 .seq (.cond (.t 20)
 (.skip)
 (.exit 0)) <|
 .seq (.block 1 <|
 .n [.ia 21 3 17 19,.load (some 22) false 3 true (.t 21),.alloc 7 (T 1) [(.bool false),.nils,.nils],.store 3 (.t 7) (.t 22)] <|
 .n [.m 23 0,.e 24 42 (F 33) [.t 23,(.k (.int .u8 124))]] <|
 .seq (.n [.f 25 0 7,.l 26 25] <|
 .cond (.t 26)
 (.n [.m 27 0,.f 28 1 7,.l 29 28,.e 30 42 (F 22) [.t 27,.t 29]] <|
 .o [.m 31 0,.e 32 42 (F 33) [.t 31,(.k (.int .u8 61))]])
 (.skip)) <|
 .o [.m 33 0,.f 34 2 7,.l 35 34,.e 36 42 (F 22) [.t 33,.t 35]]) <|
 .o [.bi 37 .add 19 1,.m 19 37]) <|
 .o [.m 38 0,.m 39 2,.slcS (some 40) (.s [125,125,125]) none (some (.t 39)),.e 41 42 (F 27) [.t 38,.t 40]]
abbrev Is31 (P:Program) (F T:Nat→Nat):Prop:=Fn P (F 31) 42 [] (c31 F T)
def c22 (F T:Nat→Nat):C :=
 .n [.m 6 1,.ll 7 6,.mov (some 8) (.i 0)] <|
 .block 0 <|
 .loop <|
 .n [.b 9 .lss 8 7] <|
 .seq (.cond (.t 9)
 (.skip)
 (.exit 0)) <|
 .seq (.block 1 <|
 .n [.ia 10 5 6 8,.load (some 11) false 5 true (.t 10),.alloc 5 (T 0) [(.int .i64 0),(.int .i64 0),(.str []),.nils,.nils],.store 5 (.t 5) (.t 11)] <|
 .o [.m 12 0,.load (some 13) false 5 true (.t 5),.e 14 16 (F 29) [.t 12,.t 13]]) <|
 .o [.bi 15 .add 8 1,.m 8 15]
abbrev Is22 (P:Program) (F T:Nat→Nat):Prop:=Fn P (F 22) 16 [] (c22 F T)
def c2 (F T:Nat→Nat):C :=
 .n [.mov (some 2) (.s [])] <|
 .seq (.gha (.bclose 3 (T 3)) <| .o [.alloc 3 (T 2) [.nilp,.nils]]) <|
 .n [.m 4 0,.e 5 7 (F 22) [.t 3,.t 4]] <|
 .n [.e 6 7 (F 23) [.t 3],.m 2 6] <|
 .ret
abbrev Is2 (P:Program) (F T:Nat→Nat):Prop:=Fn P (F 2) 7 [(2,none)] (c2 F T)
def c25 (F T:Nat→Nat):C :=
 .n [.mov (some 4) (.s [])] <|
 .n [.mkl (some 6) 1 [.s [],.s [110,111,105,110,99,108,117,100,101,62],.s [105,110,99,108,117,100,101,111,110,108,121,62],.s [111,110,108,121,105,110,99,108,117,100,101,62]],.m 5 6] <|
 .seq (.seq (.ops false [⟨none,[.m 7 0,.bi 8 .lss 7 1,.m 9 8]⟩,
 ⟨some (9,false),[.m 10 0,.bi 11 .gtr 10 3]⟩,
 ⟨none,[.pt 12 9 11]⟩]) <|
 .cond (.t 12)
 (.n [.mov (some 4) (.s [])] <|
 .ret)
 (.skip)) <|
 .seq (.n [.m 13 1] <|
 .cond (.t 13)
 (.n [.m 14 5,.m 15 0,.ia 16 1 14 15,.l 17 16,.bin (some 18) .add (.s [60,47]) (.t 17),.m 4 18] <|
 .ret)
 (.skip)) <|
 .n [.m 19 5,.m 20 0,.ia 21 1 19 20,.l 22 21,.bin (some 23) .add (.s [60]) (.t 22),.m 4 23] <|
 .ret
abbrev Is25 (P:Program) (F T:Nat→Nat):Prop:=Fn P (F 25) 24 [(4,none)] (c25 F T)
def c3 (F T:Nat→Nat):C :=
 .n [.mov (some 2) (.s [])] <|
 .n [.mov (some 3) (.s [])] <|
 .seq (.n [.mov (some 4) (.i 0)] <|
 .block 0 <|
 .loop <|
 .seq (.n [.m 6 4,.m 7 0,.ll 8 7,.b 9 .lss 6 8] <|
 .cond (.t 9)
 (.skip)
 (.exit 0)) <|
 .seq (.block 1 <|
 .n [.m 12 0,.m 13 4,.ia 14 5 12 13,.load (some 15) false 5 true (.t 14),.alloc 5 (T 0) [(.int .i64 0),(.int .i64 0),(.str []),.nils,.nils],.store 5 (.t 5) (.t 15)] <|
 .n [.f 16 0 5,.l 17 16] <|
 .block 2 <|
 .seq (.n [.bi 19 .eql 17 1,.m 18 19] <|
 .cond (.t 18)
 (.skip)
 (.o [.bi 20 .eql 17 2,.m 18 20])) <|
 .cond (.t 18)
 (.o [.m 21 3,.f 22 2 5,.l 23 22,.b 24 .add 21 23,.m 3 24])
 (.n [.bi 26 .eql 17 3,.m 25 26] <|
 .cond (.t 25)
 (.o [.m 27 3,.bin (some 28) .add (.t 27) (.s [60,110,111,119,105,107,105,62]),.f 29 2 5,.l 30 29,.b 31 .add 28 30,.bin (some 32) .add (.t 31) (.s [60,47,110,111,119,105,107,105,62]),.m 3 32])
 (.n [.bi 34 .eql 17 4,.m 33 34] <|
 .cond (.t 33)
 (.p [.m 35 3,.bin (some 36) .add (.t 35) (.s [123,123]),.f 37 3 5,.l 38 37,.c 39 (F 3) [.t 38],.b 40 .add 36 39,.f 41 4 5,.l 42 41,.c 43 (F 24) [.t 42],.b 44 .add 40 43,.bin (some 45) .add (.t 44) (.s [125,125]),.m 3 45])
 (.n [.bi 47 .eql 17 5,.m 46 47] <|
 .cond (.t 46)
 (.p [.m 48 3,.bin (some 49) .add (.t 48) (.s [123,123,123]),.f 50 3 5,.l 51 50,.c 52 (F 3) [.t 51],.b 53 .add 49 52,.f 54 4 5,.l 55 54,.c 56 (F 24) [.t 55],.b 57 .add 53 56,.bin (some 58) .add (.t 57) (.s [125,125,125]),.m 3 58])
 (.n [.bi 60 .eql 17 6,.m 59 60] <|
 .cond (.t 59)
 (.seq (.ops false [⟨none,[.f 61 1 5,.l 62 61,.bi 63 .geq 62 1,.m 64 63]⟩,
 ⟨some (64,true),[.f 65 1 5,.l 66 65,.bi 67 .leq 66 3]⟩,
 ⟨none,[.pf 68 64 67]⟩]) <|
 .cond (.t 68)
 (.p [.m 69 3,.f 70 1 5,.l 71 70,.c 72 (F 25) [.t 71,(.k (.bool false))],.b 73 .add 69 72,.f 74 3 5,.l 75 74,.c 76 (F 3) [.t 75],.b 77 .add 73 76,.f 78 1 5,.l 79 78,.c 80 (F 25) [.t 79,(.k (.bool true))],.b 81 .add 77 80,.m 3 81])
 (.skip))
 (.skip)))))) <|
 .o [.m 10 4,.bi 11 .add 10 1,.m 4 11]) <|
 .n [.m 82 3,.m 2 82] <|
 .ret
abbrev Is3 (P:Program) (F T:Nat→Nat):Prop:=Fn P (F 3) 83 [(2,none)] (c3 F T)
def c24 (F T:Nat→Nat):C :=
 .n [.mov (some 2) (.s [])] <|
 .n [.mov (some 3) (.s [])] <|
 .seq (.n [.mov (some 4) (.i 0)] <|
 .block 0 <|
 .loop <|
 .seq (.n [.m 5 4,.m 6 0,.ll 7 6,.b 8 .lss 5 7] <|
 .cond (.t 8)
 (.skip)
 (.exit 0)) <|
 .seq (.block 1 <|
 .n [.m 11 3,.bin (some 12) .add (.t 11) (.s [124]),.m 3 12] <|
 .seq (.n [.m 13 0,.m 14 4,.ia 15 3 13 14,.f 16 0 15,.l 17 16] <|
 .cond (.t 17)
 (.o [.m 18 3,.m 19 0,.m 20 4,.ia 21 3 19 20,.f 22 1 21,.l 23 22,.c 24 (F 3) [.t 23],.b 25 .add 18 24,.bin (some 26) .add (.t 25) (.s [61]),.m 3 26])
 (.skip)) <|
 .o [.m 27 3,.m 28 0,.m 29 4,.ia 30 3 28 29,.f 31 2 30,.l 32 31,.c 33 (F 3) [.t 32],.b 34 .add 27 33,.m 3 34]) <|
 .o [.m 9 4,.bi 10 .add 9 1,.m 4 10]) <|
 .n [.m 35 3,.m 2 35] <|
 .ret
abbrev Is24 (P:Program) (F T:Nat→Nat):Prop:=Fn P (F 24) 36 [(2,none)] (c24 F T)
def c1 (F T:Nat→Nat):C :=
 .n [.mov (some 2) (.k (.bool false))] <|
 .seq (.ops false [⟨none,[.m 3 0,.c 4 (F 11) [.t 3],.bi 5 .gtr 4 400,.m 6 5]⟩,
 ⟨some (6,false),[.m 7 0,.c 8 (F 3) [.t 7],.ls 9 8,.bi 10 .gtr 9 4000]⟩,
 ⟨none,[.pt 11 6 10,.m 2 11]⟩]) <|
 .ret
def c4 (F T:Nat→Nat):C :=
 .n [.mov (some 0) (.k (.bool false))] <|
 .n [.build (some 2) [(.int .i64 0),(.int .i64 0),(.str []),.nils,.nils] [(0,1,(.i 1)),(2,1,(.s [97]))],.mkl (some 3) 5 [.t 2],.build (some 4) [(.int .i64 0),(.int .i64 0),(.str []),.nils,.nils] [(0,1,(.i 1)),(2,1,(.s [107]))],.mkl (some 5) 5 [.t 4],.build (some 6) [(.int .i64 0),(.int .i64 0),(.str []),.nils,.nils] [(0,1,(.i 1)),(2,1,(.s [118]))],.mkl (some 7) 5 [.t 6],.build (some 8) [(.bool false),.nils,.nils] [(0,1,(.k (.bool true))),(1,1,(.t 5)),(2,1,(.t 7))],.mkl (some 9) 3 [.t 8],.build (some 10) [(.int .i64 0),(.int .i64 0),(.str []),.nils,.nils] [(0,1,(.i 4)),(3,1,(.t 3)),(4,1,(.t 9))],.mkl (some 11) 5 [.t 10],.m 1 11] <|
 .seq (.ops false [⟨none,[.m 12 1,.c 13 (F 2) [.t 12],.bin (some 14) .eql (.t 13) (.s [123,123,97,124,107,61,118,125,125]),.m 15 14]⟩,
 ⟨some (15,true),[.m 16 1,.c 17 (F 10) [.t 16],.bi 18 .eql 17 4]⟩,
 ⟨none,[.pf 19 15 18,.m 20 19]⟩,
 ⟨some (20,true),[.m 21 1,.c 22 (F 12) [.t 21],.bi 23 .eql 22 2]⟩,
 ⟨none,[.pf 24 20 23,.m 25 24]⟩,
 ⟨some (25,true),[.m 26 1,.m 27 1,.c 28 (F 6) [.t 26,.t 27]]⟩,
 ⟨none,[.pf 29 25 28,.m 30 29]⟩,
 ⟨some (30,true),[.m 31 1,.c 32 (F 6) [.t 31,(.k .nils)],.un (some 33) .not (.t 32)]⟩,
 ⟨none,[.pf 34 30 33,.m 0 34]⟩]) <|
 .ret
def c0 (F T:Nat→Nat):C :=
 .n [.mov (some 2) (.k (.bool false))] <|
 .seq (.ops false [⟨none,[.m 3 0,.c 4 (F 1) [.t 3],.m 5 4]⟩,
 ⟨some (5,false),[.m 6 0,.c 7 (F 2) [.t 6],.m 8 0,.c 9 (F 3) [.t 8],.b 10 .eql 7 9,.m 11 10]⟩,
 ⟨some (11,true),[.c 12 (F 4) []]⟩,
 ⟨some (5,false),[.pf 13 11 12]⟩,
 ⟨none,[.pt 14 5 13,.m 2 14]⟩]) <|
 .ret
def c5 (F T:Nat→Nat):C :=
 .n [.mov (some 4) (.k (.bool false))] <|
 .seq (.seq (.ops false [⟨none,[.m 5 0,.c 6 (F 1) [.t 5],.m 7 6]⟩,
 ⟨some (7,false),[.m 8 1,.c 9 (F 1) [.t 8]]⟩,
 ⟨none,[.pt 10 7 9]⟩]) <|
 .cond (.t 10)
 (.n [.c 11 (F 4) [],.m 4 11] <|
 .ret)
 (.skip)) <|
 .seq (.ops false [⟨none,[.m 12 0,.m 13 1,.c 14 (F 6) [.t 12,.t 13],.m 15 0,.m 16 1,.c 17 (F 7) [.t 15,.t 16],.eqB (some 18) false (.t 14) (.t 17),.m 19 18]⟩,
 ⟨some (19,true),[.m 20 0,.m 21 0,.c 22 (F 6) [.t 20,.t 21]]⟩,
 ⟨none,[.pf 23 19 22,.m 24 23]⟩,
 ⟨some (24,true),[.m 25 1,.m 26 1,.app 27 (T 0) 5 (.k .nils) (.t 26),.call (some 28) false (F 6) [.t 25,.t 27]]⟩,
 ⟨none,[.pf 29 24 28,.m 30 29]⟩,
 ⟨some (30,true),[.c 31 (F 4) []]⟩,
 ⟨none,[.pf 32 30 31,.m 4 32]⟩]) <|
 .ret
def c8 (F T:Nat→Nat):C :=
 .n [.mov (some 6) (.k (.bool false))] <|
 .seq (.seq (.ops false [⟨none,[.m 9 0,.c 10 (F 1) [.t 9],.m 11 10]⟩,
 ⟨some (11,false),[.m 12 0,.ll 13 12,.bi 14 .eql 13 0]⟩,
 ⟨none,[.pt 15 11 14]⟩]) <|
 .cond (.t 15)
 (.n [.c 16 (F 4) [],.m 6 16] <|
 .ret)
 (.skip)) <|
 .n [.m 17 0,.app 18 (T 0) 5 (.k .nils) (.t 17),.m 7 18] <|
 .n [.m 19 7,.m 20 1,.bi 21 .and 20 65535,.m 22 7,.ll 23 22,.b 24 .rem 21 23,.ia 25 5 19 24,.m 8 25] <|
 .seq (.n [.m 26 2,.bi 27 .and 26 7] <|
 .block 0 <|
 .n [.bi 33 .eql 27 0,.m 32 33] <|
 .cond (.t 32)
 (.o [.m 34 8,.m 35 8,.nchk (some 36) (.t 35),.f 37 0 36,.l 38 37,.bi 39 .xor 38 1,.nchk (some 40) (.t 34),.f 41 0 40,.store 1 (.t 41) (.t 39)])
 (.n [.bi 43 .eql 27 1,.m 42 43] <|
 .cond (.t 42)
 (.o [.m 44 8,.m 45 8,.nchk (some 46) (.t 45),.f 47 1 46,.l 48 47,.bi 49 .xor 48 1,.nchk (some 50) (.t 44),.f 51 1 50,.store 1 (.t 51) (.t 49)])
 (.n [.bi 53 .eql 27 2,.m 52 53] <|
 .cond (.t 52)
 (.o [.m 54 8,.m 55 8,.nchk (some 56) (.t 55),.f 57 2 56,.l 58 57,.bin (some 59) .add (.t 58) (.s [120]),.nchk (some 60) (.t 54),.f 61 2 60,.store 1 (.t 61) (.t 59)])
 (.n [.bi 63 .eql 27 3,.m 62 63] <|
 .cond (.t 62)
 (.o [.m 64 8,.m 65 8,.nchk (some 66) (.t 65),.f 67 3 66,.l 68 67,.app 69 (T 0) 5 (.k .nils) (.t 68),.build (some 70) [(.int .i64 0),(.int .i64 0),(.str []),.nils,.nils] [],.mkl (some 71) 5 [.t 70],.app 72 (T 0) 5 (.t 69) (.t 71),.nchk (some 73) (.t 64),.f 74 3 73,.store 1 (.t 74) (.t 72)])
 (.n [.bi 76 .eql 27 4,.m 75 76] <|
 .cond (.t 75)
 (.o [.m 77 8,.m 78 8,.nchk (some 79) (.t 78),.f 80 4 79,.l 81 80,.app 82 (T 1) 3 (.k .nils) (.t 81),.build (some 83) [(.bool false),.nils,.nils] [],.mkl (some 84) 3 [.t 83],.app 85 (T 1) 3 (.t 82) (.t 84),.nchk (some 86) (.t 77),.f 87 4 86,.store 1 (.t 87) (.t 85)])
 (.o [.m 28 7,.build (some 29) [(.int .i64 0),(.int .i64 0),(.str []),.nils,.nils] [],.mkl (some 30) 5 [.t 29],.app 31 (T 0) 5 (.t 28) (.t 30),.m 7 31])))))) <|
 .seq (.ops false [⟨none,[.m 88 0,.m 89 7,.call (some 90) false (F 6) [.t 88,.t 89],.un (some 91) .not (.t 90),.m 92 91]⟩,
 ⟨some (92,true),[.m 93 7,.m 94 0,.call (some 95) false (F 6) [.t 93,.t 94],.un (some 96) .not (.t 95)]⟩,
 ⟨none,[.pf 97 92 96,.m 98 97]⟩,
 ⟨some (98,true),[.c 99 (F 4) []]⟩,
 ⟨none,[.pf 100 98 99,.m 6 100]⟩]) <|
 .ret
def c9 (F T:Nat→Nat):C :=
 .n [.mov (some 2) (.k (.bool false))] <|
 .seq (.n [.m 3 0,.c 4 (F 1) [.t 3]] <|
 .cond (.t 4)
 (.n [.c 5 (F 4) [],.m 2 5] <|
 .ret)
 (.skip)) <|
 .seq (.ops false [⟨none,[.m 6 0,.c 7 (F 10) [.t 6],.m 8 0,.c 9 (F 11) [.t 8],.b 10 .eql 7 9,.m 11 10]⟩,
 ⟨some (11,true),[.m 12 0,.c 13 (F 12) [.t 12],.m 14 0,.c 15 (F 13) [.t 14],.b 16 .eql 13 15]⟩,
 ⟨none,[.pf 17 11 16,.m 18 17]⟩,
 ⟨some (18,true),[.m 19 0,.c 20 (F 12) [.t 19],.m 21 0,.c 22 (F 10) [.t 21],.b 23 .leq 20 22]⟩,
 ⟨none,[.pf 24 18 23,.m 25 24]⟩,
 ⟨some (25,true),[.c 26 (F 4) []]⟩,
 ⟨none,[.pf 27 25 26,.m 2 27]⟩]) <|
 .ret
end Go.Ab
namespace Go.Ab
structure Wrote (L:Heap) (nx id tb ty:Nat) (bs:List UInt8) (L':Heap) (nx':Nat):Prop where
 le:nx≤nx'
 at_:L' id=some (.bld tb ty bs)
 old:∀ x,x<nx→x≠id→L' x=L x
theorem aCy (bs:List UInt8):(aAr bs).take bs.length=aAr bs:=by
 rw [← aBh bs,List.take_length]
theorem aGx (a b:List UInt8):aAr (a++b)=aAr a++aAr b:=by simp [aAr]
variable {P:Program} {F T:Nat→Nat}
theorem t30 (hf:Is30 P F T) {L:Heap} {nx id:Nat} {bs:List UInt8} (hL:L id=some (.bld (T 2) (T 3) bs)) (hid:id<nx) :
 ECall P (F 30) [.ptr id 0] L nx fun _ L' nx'=>Wrote L nx id (T 2) (T 3) bs L' nx':=by
 refine aCo [] hf (by simp) ?_
 have hne:nx≠id:=by omega
 have hne':id≠nx:=by omega
 simp only [c30,St.enter,w_gh,aBl,List.getD_cons_zero,hL]
 intro a ha
 have fin:∀ (L2:Heap) (nx2:Nat) (bs2:List UInt8),nx≤nx2→(∀ x,x<nx→x≠id→L2 x=L x)→bs2=bs→L2 id=some (.bld (T 2) (T 3) bs2)→nx≤nx2∧Wrote L nx id (T 2) (T 3) bs L2 nx2:=fun L2 nx2 bs2 h1 h2 h3 h4=>⟨h1,h1,h3 ▸ h4,h2⟩
 refine ⟨fun hb=>?_,fun hb=>?_⟩
 ·subst hb
  rcases ha with rfl | rfl
  all_goals
   simp only [push_cast,seval,-Nat.reducePow,hne,hne']
   exact fin _ _ [] (by omega) (fun x hx hn=>by simp [upd,hn]) rfl (by simp [upd])
 ·have hpos:0<bs.length:=List.length_pos_iff.2 hb
  rcases ha with rfl | rfl
  all_goals
   simp only [push_cast,seval,-Nat.reducePow,hne,hne',aBh,aCy]
   refine ⟨hpos,bs,rfl,fin _ _ bs (by omega) (fun x hx hn=>?_) rfl (by simp [upd])⟩
   simp [upd,hn,show x≠nx by omega]
theorem t27 (hf:Is27 P F T) (hc:Is30 P F T) {L:Heap} {nx id:Nat} {bs t:List UInt8} (hL:L id=some (.bld (T 2) (T 3) bs)) (hid:id<nx) (hlen:bs.length+t.length≤2^32) :
 ECall P (F 27) [.ptr id 0,.str t] L nx fun _ L' nx'=>Wrote L nx id (T 2) (T 3) (bs++t) L' nx':=by
 refine aCo [] hf (by simp) ?_
 simp only [c27,push_cast,seval,-Nat.reducePow]
 refine aAc (t30 hc hL (by omega)) ?_
 rintro r L' nx' ⟨h1,h3,h4⟩
 have n1:nx'+19+14≠id:=by omega
 have n2:id≠nx'+19+14:=by omega
 have n3:nx'+19≠id:=by omega
 have n4:id≠nx'+19:=by omega
 have n5:nx'+19+1+14≠id:=by omega
 have n6:id≠nx'+19+1+14:=by omega
 have n7:nx'+19+1+14≠nx'+19:=by omega
 simp only [push_cast,seval,-Nat.reducePow,h3]
 intro a ha
 have fin:∀ (L2:Heap) (nx2:Nat) (bs2:List UInt8),nx'≤nx2→bs2=bs++t→(∀ x,x<nx→x≠id→L2 x=L' x)→L2 id=some (.bld (T 2) (T 3) bs2)→nx≤nx2∧Wrote L nx id (T 2) (T 3) (bs++t) L2 nx2:=fun L2 nx2 bs2 q1 q2 q3 q4=>by
  subst q2
  exact ⟨by omega,by omega,q4,fun x hx hn=>by rw [q3 x hx hn]; exact h4 x (by omega) hn⟩
 refine ⟨fun hb=>?_,fun hb=>?_⟩
 ·subst hb
  refine aI9 ?_
  cases t with
  | nil =>
    simp only [push_cast,seval,-Nat.reducePow]
    exact ⟨ha,fin _ _ [] (by omega) rfl (fun x hx hn=>by simp [upd,hn]) (by simp [upd])⟩
  | cons c t =>
    simp only [push_cast,seval,-Nat.reducePow,n1,n2,n3,n4]
    refine ⟨by simpa using hlen,ha,by simp,c::t,by rw [aI5,← aBh t,List.take_length],fin _ _ (c::t) (by omega) rfl (fun x hx hn=>?_) (by simp [upd])⟩
    simp [upd,hn,show x≠nx'+19+14 by omega]
 ·have hpos:0<bs.length:=List.length_pos_iff.2 hb
  have e1:(aAr bs).take bs.length++aAr t=aAr (bs++t):=by rw [aCy,aGx]
  have e2:bs.length+(aAr t).length=(bs++t).length:=by rw [aBh,List.length_append]
  simp only [push_cast,seval,-Nat.reducePow,n1,n2,n3,n4,n5,n6,n7]
  rw [e1]
  refine ⟨hlen,ha,by omega,by rw [aBh,List.length_append]; exact Nat.le_refl _,bs++t,by rw [← List.length_append]; exact aCy _,fin _ _ (bs++t) (by omega) rfl (fun x hx hn=>?_) (by simp [upd])⟩
  simp [upd,hn,show x≠nx'+19+1+14 by omega,show x≠nx'+19 by omega]
theorem t33 (hf:Is33 P F T) (hc:Is30 P F T) {L:Heap} {nx id:Nat} {bs:List UInt8} {b:UInt8} (hL:L id=some (.bld (T 2) (T 3) bs)) (hid:id<nx) (hlen:bs.length+1≤2^32) :
 ECall P (F 33) [.ptr id 0,.int .u8 b.toNat] L nx fun _ L' nx'=>Wrote L nx id (T 2) (T 3) (bs++[b]) L' nx':=by
 refine aCo [] hf (by simp) ?_
 simp only [c33,push_cast,seval,-Nat.reducePow]
 refine aAc (t30 hc hL (by omega)) ?_
 rintro r L' nx' ⟨h1,h3,h4⟩
 have n1:nx'+17+14≠id:=by omega
 have n2:id≠nx'+17+14:=by omega
 have n3:nx'+17≠id:=by omega
 have n4:id≠nx'+17:=by omega
 have n5:nx'+17+1+14≠id:=by omega
 have n6:id≠nx'+17+1+14:=by omega
 have n7:nx'+17+1+14≠nx'+17:=by omega
 simp only [push_cast,seval,-Nat.reducePow,h3]
 intro a ha
 have fin:∀ (L2:Heap) (nx2:Nat) (bs2:List UInt8),nx'≤nx2→bs2=bs++[b]→(∀ x,x<nx→x≠id→L2 x=L' x)→L2 id=some (.bld (T 2) (T 3) bs2)→nx≤nx2∧Wrote L nx id (T 2) (T 3) (bs++[b]) L2 nx2:=fun L2 nx2 bs2 q1 q2 q3 q4=>by
  subst q2
  exact ⟨by omega,by omega,q4,fun x hx hn=>by rw [q3 x hx hn]; exact h4 x (by omega) hn⟩
 refine ⟨fun hb=>?_,fun hb=>?_⟩
 ·subst hb
  refine aI9 ?_
  simp only [push_cast,seval,-Nat.reducePow,n1,n2,n3,n4]
  refine ⟨by simp,ha,[b],rfl,fin _ _ [b] (by omega) rfl (fun x hx hn=>?_) (by simp [upd])⟩
  simp [upd,hn,show x≠nx'+17+14 by omega]
 ·have e1:(aAr bs).take bs.length++[V.int .u8 b.toNat]=aAr (bs++[b]):=by rw [aCy,aGx]; rfl
  have e2:bs.length+1=(bs++[b]).length:=by simp
  simp only [push_cast,seval,-Nat.reducePow,n1,n2,n3,n4,n5,n6,n7]
  rw [e1]
  refine ⟨hlen,ha,by omega,by rw [aBh]; simp,bs++[b],by rw [e2]; exact aCy _,fin _ _ (bs++[b]) (by omega) rfl (fun x hx hn=>?_) (by simp [upd])⟩
  simp [upd,hn,show x≠nx'+17+1+14 by omega,show x≠nx'+17 by omega]
theorem t23 (hf:Is23 P F T) {L:Heap} {nx id:Nat} {bs:List UInt8} (hL:L id=some (.bld (T 2) (T 3) bs)) (hid:id<nx) :
 ECall P (F 23) [.ptr id 0] L nx fun r L' nx'=>r=.str bs∧nx≤nx'∧∀ x,x<nx→x≠id→L' x=L x:=by
 refine aCo [] hf (by simp) ?_
 have n1:nx+14≠id:=by omega
 have n2:id≠nx+14:=by omega
 simp only [c23,push_cast,seval,-Nat.reducePow,hL]
 intro a ha
 refine ⟨fun hb=>?_,fun hb=>?_⟩
 ·subst hb
  simp only [push_cast,seval,-Nat.reducePow,n1,n2]
  exact ⟨by omega,by omega,fun x _ hn=>by simp [upd,hn]⟩
 ·have hpos:0<bs.length:=List.length_pos_iff.2 hb
  simp only [push_cast,seval,-Nat.reducePow,n1,n2,aBh]
  refine ⟨hpos,by omega,bs,aCy bs,by omega,rfl,by omega,fun x hx hn=>?_⟩
  simp [upd,hn,show x≠nx+14 by omega]
end Go.Ab
namespace Go.Ab
theorem Wrote.refl {L:Heap} {nx id tb ty:Nat} {bs:List UInt8} (h:L id=some (.bld tb ty bs)):Wrote L nx id tb ty bs L nx:=⟨Nat.le_refl _,h,fun _ _ _=>rfl⟩
theorem Wrote.step {L L1 L2 L3:Heap} {nx nx1 nx2 nx3 id tb ty:Nat} {b1 b2:List UInt8} (h:Wrote L nx id tb ty b1 L1 nx1) (h2:Wrote L2 nx2 id tb ty b2 L3 nx3) (hle:nx1≤nx2) (hs:∀ x,x<nx1→x≠id→L2 x=L1 x):Wrote L nx id tb ty b2 L3 nx3 :=
 ⟨by have:=h.le; have:=h2.le; omega,h2.at_,fun x hx hn=>by have:=h.le; rw [h2.old x (by omega) hn,hs x (by omega) hn,h.old x hx hn]⟩
variable {P:Program} {F T:Nat→Nat}
theorem t32 (hf:Is32 P F T) (t:Int):PTr P (F 32) [.int .i64 t] (.str (aA9 t)):=by
 refine ptrC [] hf (by simp) rfl ?_
 simp only [c32,push_cast,seval,-Nat.reducePow]
 refine aAk (fun h=>?_) (fun h=>?_)
 ·subst h
  simp only [push_cast,seval,-Nat.reducePow]
  rfl
 ·simp only [push_cast,seval,-Nat.reducePow]
  refine aAk (fun h2=>?_) (fun h2=>?_)
  ·subst h2
   simp only [push_cast,seval,-Nat.reducePow]
   rfl
  ·simp only [push_cast,seval,-Nat.reducePow]
   refine aAk (fun h3=>?_) (fun h3=>?_)
   ·subst h3
    simp only [push_cast,seval,-Nat.reducePow]
    rfl
   ·simp only [push_cast,seval,-Nat.reducePow]
    simp [view,aA9,h,h2,h3]
def WA (P:Program) (F T:Nat→Nat) (n:Nat):Prop:=∀ (l:List Node) (L:Heap) (nx id:Nat) (bs:List UInt8),aA4 l<n→L id=some (.bld (T 2) (T 3) bs)→id<nx→bs.length+27*aA4 l≤2^32 →
 ECall P (F 22) [.ptr id 0,.lst 5 (encs l)] L nx fun _ L' nx'=>Wrote L nx id (T 2) (T 3) (bs++srcs l) L' nx'
def WN (P:Program) (F T:Nat→Nat) (n:Nat):Prop:=∀ (x:Node) (L:Heap) (nx id:Nat) (bs:List UInt8),x.bulk≤n→L id=some (.bld (T 2) (T 3) bs)→id<nx→bs.length+27*x.bulk≤2^32 →
 ECall P (F 29) [.ptr id 0,.agg x.cs] L nx fun _ L' nx'=>Wrote L nx id (T 2) (T 3) (bs++x.src) L' nx'
theorem t22 (hf:Is22 P F T) {n:Nat} (hN:WN P F T n):WA P F T (n+1):=by
 intro l L nx id bs hn hL hid hb
 refine aCo [] hf (by simp) ?_
 simp only [c22,push_cast,seval,-Nat.reducePow]
 refine aAl (fun m s=>∃ a r,l=a++r∧m=r.length∧s.env 0=.ptr id 0∧s.env 6=.lst 5 (encs (a++r))∧s.env 7=.int .i64 (a++r).length∧s.env 8=.int .i64 a.length∧Wrote L nx id (T 2) (T 3) (bs++srcs a) s.L s.nx) l.length ⟨[],l,?_⟩ fun m s hJ=>?_
 ·simp only [push_cast,seval,-Nat.reducePow,srcs]
  exact ⟨by omega,hL,fun _ _ _=>rfl⟩
 ·obtain ⟨a,r,rfl,rfl,h0,h6,h7,h8,hw⟩:=hJ
  cases r with
  | nil =>
    simp only [push_cast,seval,-Nat.reducePow,h0,h6,h7,h8]
    exact ⟨by have:=hw.le; omega,by have:=hw.le; omega,hw.at_,hw.old⟩
  | cons x r =>
    obtain ⟨k,t,s0,ks,as⟩:=x
    have hx:=aBk a (.mk k t s0 ks as::r)
    simp only [aA4] at hx
    have ha:=aBj a
    have hl:=aEh a
    have hwle:=hw.le
    have hid2:id<s.nx:=by omega
    have n1:id≠s.nx+21:=by omega
    have hat:=hw.at_
    simp only [push_cast,seval,-Nat.reducePow,h0,h6,h7,h8,n1,Node.cs]
    refine aAc (hN (.mk k t s0 ks as) _ _ id (bs++srcs a) (by omega) (by simp only [push_cast,seval,-Nat.reducePow,n1,hat]) (by omega) (by simp; omega)) ?_
    rintro q L' nx' hw2
    simp only [push_cast,seval,-Nat.reducePow,h0,h6,h7,h8]
    refine ⟨by omega,r.length,by omega,a++[.mk k t s0 ks as],r,by simp,rfl,by simp,by simp,by simp,?_⟩
    have hw3:=hw.step hw2 (by omega) (fun x hx hn=>by simp [upd,show x≠s.nx+21 by omega])
    simp only [aJe,srcs,List.append_nil,List.append_assoc] at hw3 ⊢
    exact ⟨by have:=hw3.le; omega,hw3.at_,hw3.old⟩
theorem t31 (hf:Is31 P F T) (h27:Is27 P F T) (h33:Is33 P F T) (h30:Is30 P F T) {n:Nat} (hA:WA P F T n) (k t:Int) (s0:List UInt8) (ks:List Node) (as:List Arg) (L:Heap) (nx id:Nat) (bs:List UInt8) (z:Nat) (hz:z=2∨z=3)
 (hn:aA4 ks+aCl as<n) (hL:L id=some (.bld (T 2) (T 3) bs)) (hid:id<nx) (hb:bs.length+27*(aA4 ks+aCl as+1)≤2^32) :
 ECall P (F 31) [.ptr id 0,.agg (Node.mk k t s0 ks as).cs,.int .i64 z] L nx fun _ L' nx'=>Wrote L nx id (T 2) (T 3) (bs++(List.replicate z 123++srcs ks++srcA as++List.replicate z 125)) L' nx':=by
 refine aCo [] hf (by simp) ?_
 have hks:=aBj ks
 have n1:id≠nx+4:=by omega
 have z1:(z:Int)≤3:=by omega
 have z2:z≤3:=by omega
 simp only [c31,push_cast,seval,-Nat.reducePow,Node.cs,n1,z2]
 have e1:List.take z [(123:UInt8),123,123]=List.replicate z 123:=by rcases hz with rfl | rfl <;> rfl
 have e2:List.take z [(125:UInt8),125,125]=List.replicate z 125:=by rcases hz with rfl | rfl <;> rfl
 rw [e1]
 refine aAc (t27 (bs:=bs) (t:=List.replicate z 123) h27 h30 (by simp only [push_cast,seval,-Nat.reducePow,n1,hL]) (by omega) (by simp; omega)) ?_
 rintro q L1 nx1 ⟨a1,a2,a3⟩
 have b1:L1 (nx+4)=some (.box (T 0) (Node.mk k t s0 ks as).cs):=by rw [a3 _ (by omega) (by omega)]; simp only [push_cast,seval,-Nat.reducePow,Node.cs]
 simp only [push_cast,seval,-Nat.reducePow,Node.cs,n1,b1]
 refine aAc (hA ks L1 _ id _ (by omega) a2 (by omega) (by simp; omega)) ?_
 rintro q L2 nx2 ⟨d1,d2,d3⟩
 have b2:L2 (nx+4)=some (.box (T 0) (Node.mk k t s0 ks as).cs):=by rw [d3 _ (by omega) (by omega),b1]
 simp only [push_cast,seval,-Nat.reducePow,Node.cs,n1,b2]
 have hw0:Wrote L nx id (T 2) (T 3) (bs++List.replicate z 123++srcs ks) L2 nx2:=⟨by omega,d2,fun x hx hn=>by rw [d3 x (by omega) hn,a3 x (by omega) hn]; simp [upd,show x≠nx+4 by omega]⟩
 refine aAl (fun m s=>∃ a r,as=a++r∧m=r.length∧s.env 0=.ptr id 0∧s.env 2=.int .i64 z∧s.env 17=.lst 3 (encA (a++r))∧s.env 18=.int .i64 (a++r).length∧s.env 19=.int .i64 a.length∧Wrote L nx id (T 2) (T 3) (bs++List.replicate z 123++srcs ks++srcA a) s.L s.nx) as.length ⟨[],as,?_⟩ fun m s hJ=>?_
 ·simp only [push_cast,seval,-Nat.reducePow,srcA]
  exact ⟨by omega,hw0.at_,hw0.old⟩
 ·obtain ⟨a,r,rfl,rfl,h0,h2,h17,h18,h19,hw⟩:=hJ
  have hwle:=hw.le
  have hx:=aC8 a r
  have ha:=aFk a
  cases r with
  | nil =>
    simp only [push_cast,seval,-Nat.reducePow,h0,h2,h17,h18,h19,z2]
    rw [e2]
    simp only [List.append_nil] at hn hb hx
    refine aAc (t27 h27 h30 hw.at_ (by omega) (by simp; omega)) ?_
    rintro q L3 nx3 ⟨f1,f2,f3⟩
    refine ⟨by omega,by omega,?_,fun x hx hn=>by rw [f3 x (by omega) hn,hw.old x hx hn]⟩
    simpa only [List.append_assoc] using f2
  | cons x r =>
    obtain ⟨xb,xn,xv⟩:=x
    have n2:id≠s.nx+49:=by omega
    have hl:=aJv a
    have hn1:=aBj xn
    have hv1:=aBj xv
    simp only [aCl,Arg.bulk] at hx
    simp only [push_cast,seval,-Nat.reducePow,h0,h2,h17,h18,h19,Arg.cs]
    refine aAc (t33 (b:=124) (bs:=bs++List.replicate z 123++srcs ks++srcA a) h33 h30 (by simp only [push_cast,seval,-Nat.reducePow,n2,hw.at_]) (by omega) (by simp; omega)) ?_
    rintro q L3 nx3 hw3
    have c1:=hw3.le
    have b3:L3 (s.nx+49)=some (.box (T 1) (Arg.mk xb xn xv).cs):=by rw [hw3.old _ (by omega) (by omega)]; simp only [push_cast,seval,-Nat.reducePow,Arg.cs]
    have hw4:=hw.step hw3 (by omega) (fun x hx hn=>by simp [upd,show x≠s.nx+49 by omega])
    simp only [push_cast,seval,-Nat.reducePow,h0,h2,h17,h18,h19,Arg.cs,b3]
    refine aJc (fun hxb=>?_) (fun hxb=>?_)
    ·subst hxb
     simp only [push_cast,seval,-Nat.reducePow,h0,h2,h17,h18,h19,Arg.cs,b3]
     refine aAc (hA xn L3 _ id _ (by omega) hw3.at_ (by omega) (by simp; omega)) ?_
     rintro q L5 nx5 hw5
     have c5:=hw5.le
     have b5:L5 (s.nx+49)=some (.box (T 1) (Arg.mk true xn xv).cs):=by rw [hw5.old _ (by omega) (by omega),b3]
     have hw6:=hw4.step hw5 (by omega) (fun x hx hn=>rfl)
     simp only [push_cast,seval,-Nat.reducePow,h0,h2,h17,h18,h19,Arg.cs,b5]
     refine aAc (t33 (b:=61) h33 h30 hw5.at_ (by omega) (by simp; omega)) ?_
     rintro q L7 nx7 hw7
     have c7:=hw7.le
     have b7:L7 (s.nx+49)=some (.box (T 1) (Arg.mk true xn xv).cs):=by rw [hw7.old _ (by omega) (by omega),b5]
     have hw8:=hw6.step hw7 (by omega) (fun x hx hn=>rfl)
     simp only [push_cast,seval,-Nat.reducePow,h0,h2,h17,h18,h19,Arg.cs,b7]
     refine aAc (hA xv L7 _ id _ (by omega) hw7.at_ (by omega) (by simp; omega)) ?_
     rintro q L9 nx9 hw9
     have c9:=hw9.le
     have hw10:=hw8.step hw9 (by omega) (fun x hx hn=>rfl)
     simp only [push_cast,seval,-Nat.reducePow,h0,h2,h17,h18,h19]
     refine ⟨by omega,r.length,by omega,a++[.mk true xn xv],r,by simp,rfl,by simp,by simp,by simp,by omega,?_,hw10.old⟩
     have:=hw10.at_
     simpa only [aEx,srcA,Arg.src,List.append_assoc,if_true,List.append_nil,List.cons_append,List.nil_append,List.singleton_append] using this
    ·subst hxb
     simp only [push_cast,seval,-Nat.reducePow,h0,h2,h17,h18,h19,Arg.cs,b3]
     refine aAc (hA xv L3 _ id _ (by omega) hw3.at_ (by omega) (by simp; omega)) ?_
     rintro q L9 nx9 hw9
     have c9:=hw9.le
     have hw10:=hw4.step hw9 (by omega) (fun x hx hn=>rfl)
     simp only [push_cast,seval,-Nat.reducePow,h0,h2,h17,h18,h19]
     refine ⟨by omega,r.length,by omega,a++[.mk false xn xv],r,by simp,rfl,by simp,by simp,by simp,by omega,?_,hw10.old⟩
     have:=hw10.at_
     simpa [aEx,srcA,Arg.src,List.append_assoc] using this
theorem t29 (hf:Is29 P F T) (h27:Is27 P F T) (h33:Is33 P F T) (h30:Is30 P F T) (h31:Is31 P F T) (h32:Is32 P F T) {n:Nat} (hA:WA P F T n):WN P F T n:=by
 intro x L nx id bs hn hL hid hb
 obtain ⟨k,t,s0,ks,as⟩:=x
 simp only [Node.bulk] at hn hb
 refine aCo [] hf (by simp) ?_
 have hks:=aBj ks
 have n1:id≠nx+3:=by omega
 have fr:∀ {v:Option Blk} {L':Heap} {nx' nx2:Nat} {bs':List UInt8},nx≤nx2→Wrote (upd L (nx+3) v) nx2 id (T 2) (T 3) bs' L' nx'→nx≤nx'∧Wrote L nx id (T 2) (T 3) bs' L' nx':=fun h0 h=>by
  have:=h.le
  exact ⟨by omega,by omega,h.at_,fun x hx hn=>by rw [h.old x (by omega) hn]; simp [upd,show x≠nx+3 by omega]⟩
 have hL1:∀ v,(upd L (nx+3) v) id=some (.bld (T 2) (T 3) bs):=fun v=>by simp only [push_cast,seval,-Nat.reducePow,n1,hL]
 have w27:∀ (t:List UInt8) (v:Option Blk) (m:Nat),bs.length+t.length≤2^32→id<m→ECall P (F 27) [.ptr id 0,.str t] (upd L (nx+3) v) m fun _ L' nx'=>Wrote (upd L (nx+3) v) m id (T 2) (T 3) (bs++t) L' nx':=fun t v m h1 h2=>t27 h27 h30 (hL1 v) h2 h1
 by_cases k1:k=1
 ·subst k1
  simp only [c29,push_cast,seval,-Nat.reducePow,Node.cs]
  refine aAc (w27 s0 _ _ (by omega) (by omega)) ?_
  rintro q L1 nx1 hw
  have:=hw.le
  simp only [Node.src]
  exact fr (by omega) ⟨by omega,hw.at_,hw.old⟩
 by_cases k2:k=2
 ·subst k2
  simp only [c29,push_cast,seval,-Nat.reducePow,Node.cs]
  refine aAc (w27 s0 _ _ (by omega) (by omega)) ?_
  rintro q L1 nx1 hw
  have:=hw.le
  simp only [Node.src]
  exact fr (by omega) ⟨by omega,hw.at_,hw.old⟩
 by_cases k3:k=3
 ·subst k3
  simp only [c29,push_cast,seval,-Nat.reducePow,Node.cs]
  refine ⟨by omega,by simp; omega,aAc (w27 _ _ _ (by simp; omega) (by omega)) ?_⟩
  rintro q L1 nx1 hw
  have:=hw.le
  have e:(Node.mk 3 t s0 ks as).src=[60,110,111,119,105,107,105,62]++s0++[60,47,110,111,119,105,107,105,62]:=by simp [Node.src]
  rw [e]
  exact fr (by omega) ⟨by omega,hw.at_,hw.old⟩
 by_cases k4:k=4
 ·subst k4
  simp only [c29,push_cast,seval,-Nat.reducePow,Node.cs]
  refine aAc (t31 h31 h27 h33 h30 hA 4 t s0 ks as _ _ id bs 2 (.inl rfl) (by omega) (hL1 _) (by omega) (by omega)) ?_
  rintro q L1 nx1 hw
  have:=hw.le
  have e:(Node.mk 4 t s0 ks as).src=[123,123]++srcs ks++srcA as++[125,125]:=by simp [Node.src]
  rw [e]
  exact fr (by omega) ⟨by omega,hw.at_,hw.old⟩
 by_cases k5:k=5
 ·subst k5
  simp only [c29,push_cast,seval,-Nat.reducePow,Node.cs]
  refine aAc (t31 h31 h27 h33 h30 hA 5 t s0 ks as _ _ id bs 3 (.inr rfl) (by omega) (hL1 _) (by omega) (by omega)) ?_
  rintro q L1 nx1 hw
  have:=hw.le
  have e:(Node.mk 5 t s0 ks as).src=[123,123,123]++srcs ks++srcA as++[125,125,125]:=by simp [Node.src]
  rw [e]
  exact fr (by omega) ⟨by omega,hw.at_,hw.old⟩
 by_cases k6:k=6
 ·subst k6
  simp only [c29,push_cast,seval,-Nat.reducePow,Node.cs]
  refine aAh (t32 h32 t) (by simp only [push_cast,seval,-Nat.reducePow]) (by simp only [push_cast,seval,-Nat.reducePow]) ?_
  simp only [push_cast,seval,-Nat.reducePow,Node.cs]
  by_cases ht:1≤t∧t≤3
  ·have e0:aA9 t≠[]:=by unfold aA9; split <;> (try split) <;> (try split) <;> simp; omega
   have e:(Node.mk 6 t s0 ks as).src=[60]++aA9 t++[62]++srcs ks++[60,47]++aA9 t++[62]:=by simp [Node.src,ht]
   have hlt:=aGn t
   simp only [push_cast,seval,-Nat.reducePow,e0]
   refine ⟨by omega,by simp; omega,aAc (w27 ([60]++aA9 t++[62]) _ _ (by simp; omega) (by omega)) ?_⟩
   rintro q L1 nx1 hw
   have h1:=hw.le
   have b1:L1 (nx+3)=some (.box (T 0) (Node.mk 6 t s0 ks as).cs):=by rw [hw.old _ (by omega) (by omega)]; simp only [push_cast,seval,-Nat.reducePow,Node.cs]
   simp only [push_cast,seval,-Nat.reducePow,Node.cs,b1]
   refine aAc (hA ks L1 _ id _ (by omega) hw.at_ (by omega) (by simp; omega)) ?_
   rintro q L2 nx2 hw2
   have h2:=hw2.le
   have hw3:=hw.step hw2 (by omega) (fun x hx hn=>rfl)
   simp only [push_cast,seval,-Nat.reducePow,Node.cs]
   refine ⟨by omega,by simp; omega,aAc (t27 (t:=[60,47]++aA9 t++[62]) h27 h30 hw2.at_ (by omega) (by simp; omega)) ?_⟩
   rintro q L4 nx4 hw4
   have h4:=hw4.le
   have hw5:=hw3.step hw4 (by omega) (fun x hx hn=>rfl)
   rw [e]
   refine fr (by omega) ⟨by omega,?_,hw5.old⟩
   simpa only [List.append_assoc] using hw5.at_
  ·have e0:aA9 t=[]:=by unfold aA9; split <;> (try split) <;> (try split) <;> simp <;> omega
   have e:(Node.mk 6 t s0 ks as).src=[]:=by simp [Node.src,ht]
   rw [e0,e,List.append_nil]
   simp only [push_cast,seval,-Nat.reducePow]
   exact fr (by omega) ⟨Nat.le_refl _,hL1 _,fun _ _ _=>rfl⟩
 ·simp only [c29,push_cast,seval,-Nat.reducePow,Node.cs,k1,k2,k3,k4,k5,k6]
  have e:(Node.mk k t s0 ks as).src=[]:=by simp [Node.src,k1,k2,k3,k4,k5,k6]
  rw [e,List.append_nil]
  exact fr (by omega) ⟨Nat.le_refl _,hL1 _,fun _ _ _=>rfl⟩
theorem tWA (h22:Is22 P F T) (h29:Is29 P F T) (h27:Is27 P F T) (h33:Is33 P F T) (h30:Is30 P F T) (h31:Is31 P F T) (h32:Is32 P F T):∀ n,WA P F T n
 | 0=>fun l _ _ _ _ h=>by omega
 | n+1=>t22 h22 (t29 h29 h27 h33 h30 h31 h32 (tWA h22 h29 h27 h33 h30 h31 h32 n))
theorem t2 (hf:Is2 P F T) (h23:Is23 P F T) (h22:Is22 P F T) (h29:Is29 P F T) (h27:Is27 P F T) (h33:Is33 P F T) (h30:Is30 P F T) (h31:Is31 P F T) (h32:Is32 P F T) (l:List Node) (hb:aA4 l≤2^26) :
 PTr P (F 2) [.lst 5 (encs l)] (.str (srcs l)):=by
 refine ptrC [] hf (by simp) rfl ?_
 simp only [c2,push_cast,seval,-Nat.reducePow]
 refine aAc (tWA h22 h29 h27 h33 h30 h31 h32 (aA4 l+1) l _ _ _ [] (by omega) (by simp only [push_cast,seval,-Nat.reducePow]) (by omega) (by simp; omega)) ?_
 rintro q L1 nx1 hw
 have:=hw.le
 try simp only [push_cast,seval,-Nat.reducePow]
 refine aAc (t23 h23 hw.at_ (by omega)) ?_
 rintro q L2 nx2 ⟨rfl,h1,h2⟩
 simp only [push_cast,seval,-Nat.reducePow]
 simp [view]
end Go.Ab
