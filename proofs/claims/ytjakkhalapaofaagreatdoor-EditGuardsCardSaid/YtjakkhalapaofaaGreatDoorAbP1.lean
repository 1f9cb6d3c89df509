/- Several texts of one kind, merged. No condition. -/
import Derived.Test.YtjakkhalapaofaaGreatDoorAbK2
set_option linter.unusedSimpArgs false
set_option linter.unusedVariables false
namespace Go.Ab
def aFj:List UInt8:=[60,110,111,119,105,107,105,62]
def aDf:List UInt8:=[60,47,110,111,119,105,107,105,62]
def tagO (t:Nat):List UInt8:=[60]++aAt t++[62]
def tagC (t:Nat):List UInt8:=[60,47]++aAt t++[62]
def runL (c:UInt8):List UInt8→Nat
 | []=>0
 | x::r=>if x=c then runL c r+1 else 0
def idxF (t:List UInt8):List UInt8→Nat→Option Nat
 | [],i=>if t=[] then some i else none
 | x::r,i=>if t.isPrefixOf (x::r) then some i else idxF t r (i+1)
def aA9 (o:Nat→List UInt8) (s:List UInt8):Nat :=
 if (o 1).isPrefixOf s then 1 else if (o 2).isPrefixOf s then 2 else if (o 3).isPrefixOf s then 3 else 0
def aD1 (s:List UInt8):Nat×Nat :=
 if aA9 tagO s≠0 then (11,(tagO (aA9 tagO s)).length) else if aA9 tagC s≠0 then (12,(tagC (aA9 tagC s)).length) else (0,0)
def aE9 (s:List UInt8):Nat×Nat :=
 if [60,33,45,45].isPrefixOf s then
  match idxF [45,45,62] (s.drop 4) 0 with
  | some k=>(9,4+k+3)
  | none=>(9,s.length)
 else if aFj.isPrefixOf s then
  match idxF aDf (s.drop 8) 0 with
  | some k=>(10,8+k+9)
  | none=>aD1 s
 else aD1 s
def aA0 (s:List UInt8):Nat×Nat :=
 match s with
 | []=>(0,0)
 | c::_ =>
   if c=60 then aE9 s
   else if c=123 then (if 2≤runL 123 s then (3,runL 123 s) else (0,0))
   else if c=125 then (if 2≤runL 125 s then (4,runL 125 s) else (0,0))
   else if c=91 then (if 2≤runL 91 s then (5,2) else (0,0))
   else if c=93 then (if 2≤runL 93 s then (6,2) else (0,0))
   else if c=124 then (7,1)
   else if c=61 then (8,1)
   else if c=10 then (2,1)
   else (0,0)
structure Tok where
 kind:Nat
 fr:Nat
 to:Nat
def aF8 (s:List UInt8):Nat→Nat→Nat→List Tok
 | 0,_,_=>[]
 | n+1,t,i =>
   if i<s.length then
    if (aA0 (s.drop i)).1=0 then aF8 s n t (i+1)
    else (if t<i then [⟨1,t,i⟩] else [])++⟨(aA0 (s.drop i)).1,i,i+(aA0 (s.drop i)).2⟩::aF8 s n (i+(aA0 (s.drop i)).2) (i+(aA0 (s.drop i)).2)
   else if t<s.length then [⟨1,t,s.length⟩] else []
def scan (s:List UInt8):List Tok:=aF8 s (s.length+1) 0 0
def Tok.text (s:List UInt8) (t:Tok):List UInt8:=(s.take t.to).drop t.fr
def Tok.tag (s:List UInt8) (t:Tok):Nat:=if t.kind=11 then aA9 tagO (t.text s) else if t.kind=12 then aA9 tagC (t.text s) else 0
structure El where
 kind:Nat
 tag:Nat
 count:Nat
 list:List Node
 args:List Arg
def tx (s:List UInt8):Node:=.mk 1 0 s [] []
def Node.kind:Node→Int | .mk k _ _ _ _=>k
def Node.text:Node→List UInt8 | .mk _ _ s _ _=>s
def addN (n:Node) (l:List Node):List Node:=if n.kind=1 then (if n.text=[] then l else aCj l n.text) else l++[n]
def Arg.val:Arg→List Node | .mk _ _ v=>v
def Arg.nm:Arg→List Node | .mk _ n _=>n
def Arg.named:Arg→Bool | .mk b _ _=>b
def Arg.setVal (v:List Node):Arg→Arg | .mk b n _=>.mk b n v
def aEl (f:Arg→Arg):List Arg→List Arg
 | []=>[]
 | [a]=>[f a]
 | a::b::r=>a::aEl f (b::r)
def El.add (n:Node) (e:El):El :=
 if e.kind=3∧e.args≠[] then { e with args:=aEl (fun a=>a.setVal (addN n a.val)) e.args } else { e with list:=addN n e.list }
def addS (n:Node):List El→List El
 | []=>[]
 | e::r=>e.add n::r
def aC5 (l:List Node) (st:List El):List El:=l.foldl (fun st n=>addS n st) st
def El.head (e:El):List UInt8:=if e.kind=1 then [91,91] else if e.kind=2 then tagO e.tag else if e.kind=3 then List.replicate e.count 123 else []
def Arg.pieces:Arg→List Node | .mk b n v=>tx [124]::((if b then n++[tx [61]] else [])++v)
def El.pieces (e:El):List Node:=tx e.head::(e.list++e.args.flatMap Arg.pieces)
def flat1:List El→List El
 | []=>[]
 | e::r=>aC5 e.pieces r
def flatN:Nat→List El→List El
 | 0,st=>st
 | n+1,st=>flatN n (flat1 st)
def aG2 (e:El) (s:List UInt8) (st:List El):List El:=if 20<st.length then addS (tx s) st else e::st
def barF:List El→List El
 | []=>[]
 | e::r=>if e.kind=3 then { e with args:=e.args++[.mk false [] []] }::r else addS (tx [124]) (e::r)
def aEz:List Arg→Bool
 | []=>true
 | [a]=>a.named
 | _::b::r=>aEz (b::r)
def eqF:List El→List El
 | []=>[]
 | e::r=>if e.kind=3∧aEz e.args=false then { e with args:=aEl (fun a=>.mk true a.val []) e.args }::r else addS (tx [61]) (e::r)
def aPf:List El→List El
 | []=>[]
 | e::r=>if e.kind=1 then aC5 (tx [91,91]::(e.list++[tx [93,93]])) r else addS (tx [93,93]) (e::r)
def aDo (t:Nat):List El→Option Nat
 | []=>none
 | [_]=>none
 | e::b::r=>if e.kind=2∧e.tag=t then some 0 else (aDo t (b::r)).map (·+1)
def tagF (t:Nat) (s:List UInt8) (st:List El):List El :=
 match aDo t st with
 | none=>addS (tx s) st
 | some k=>match flatN k st with
   | []=>[]
   | e::r=>addS (.mk 6 t [] e.list []) r
def aAv:List El→Option Nat
 | []=>none
 | [_]=>none
 | e::b::r=>if e.kind=2 then none else if e.kind=3 then some 0 else (aAv (b::r)).map (·+1)
def useK (c n:Nat):Nat:=if 3≤c∧3≤n then 3 else 2
def useN (c:Nat) (e:El):Node:=.mk (if useK c e.count=3 then 5 else 4) 0 [] e.list e.args
def aB9:Nat→Nat→List El→List El
 | 0,c,st=>addS (tx (List.replicate c 125)) st
 | n+1,c,st =>
   if 2≤c then match aAv st with
    | none=>addS (tx (List.replicate c 125)) st
    | some k=>match flatN k st with
      | []=>[]
      | e::r =>
        if 2≤e.count-useK c e.count then aB9 n (c-useK c e.count) ({ e with count:=e.count-useK c e.count,list:=[useN c e],args:=[] }::r)
        else aB9 n (c-useK c e.count) (addS (useN c e) (if e.count-useK c e.count=1 then addS (tx [123]) r else r))
   else addS (tx (List.replicate c 125)) st
def aBr (s:List UInt8) (t:Tok) (st:List El):List El :=
 if t.kind=9 then addS (.mk 2 0 (t.text s) [] []) st
 else if t.kind=10 then addS (.mk 3 0 (((t.text s).take ((t.text s).length-9)).drop 8) [] []) st
 else if t.kind=3 then aG2 ⟨3,0,(t.text s).length,[],[]⟩ (t.text s) st
 else if t.kind=5 then aG2 ⟨1,0,0,[],[]⟩ (t.text s) st
 else if t.kind=11 then aG2 ⟨2,t.tag s,0,[],[]⟩ (t.text s) st
 else if t.kind=7 then barF st
 else if t.kind=8 then eqF st
 else if t.kind=6 then aPf st
 else if t.kind=12 then tagF (t.tag s) (t.text s) st
 else if t.kind=4 then aB9 (t.text s).length (t.text s).length st
 else addS (tx (t.text s)) st
def root:El:=⟨0,0,0,[],[]⟩
def runF (s:List UInt8) (l:List Tok) (st:List El):List El:=l.foldl (fun st t=>aBr s t st) st
def finF (st:List El):List Node:=match flatN (st.length-1) st with | e::_=>e.list | []=>[]
def aCc (s:List UInt8):List Node:=finF (runF s (scan s) [root])
end Go.Ab
namespace Go.Ab
def c36 (F T:Nat→Nat):C :=
 .n [.mov (some 2) (.k .nils),.mov (some 3) (.i 0)] <|
 .n [.m 10 0,.c 11 (F 56) [.t 10],.m 9 11,.x 12 0 9,.x 13 1 9,.m 4 12,.m 5 13] <|
 .seq (.n [.m 14 5,.bi 15 .neq 14 0] <|
 .cond (.t 15)
 (.n [.m 16 5,.mov (some 2) (.k .nils),.m 3 16] <|
 .ret)
 (.skip)) <|
 .n [.build (some 17) [(.int .i64 0),(.int .i64 0),(.int .i64 0),.nils,.nils] [(0,1,(.i 0))],.box 18 (T 5) (.t 17),.mkv 19 (T 6) 1 [.t 18],.build (some 20) [.nils] [(0,1,(.t 19))],.box 21 (T 7) (.t 20),.m 6 21] <|
 .seq (.n [.m 22 4,.ll 23 22,.mov (some 24) (.i 0)] <|
 .block 0 <|
 .loop <|
 .n [.b 25 .lss 24 23] <|
 .seq (.cond (.t 25)
 (.skip)
 (.exit 0)) <|
 .seq (.block 1 <|
 .n [.ia 26 3 22 24,.load (some 27) false 3 true (.t 26),.alloc 8 (T 8) [(.int .i64 0),(.int .i64 0),(.int .i64 0)],.store 3 (.t 8) (.t 27)] <|
 .o [.m 28 6,.m 29 0,.load (some 30) false 3 true (.t 8),.e 31 46 (F 57) [.t 28,.t 29,.t 30]]) <|
 .o [.bi 32 .add 24 1,.m 24 32]) <|
 .seq (.block 2 <|
 .loop <|
 .seq (.n [.m 33 6,.nchk (some 34) (.t 33),.f 35 0 34,.l 36 35,.ll 37 36,.bi 38 .gtr 37 1] <|
 .cond (.t 38)
 (.skip)
 (.exit 2)) <|
 .block 3 <|
 .o [.m 39 6,.e 40 46 (F 58) [.t 39]]) <|
 .n [.m 41 6,.e 42 46 (F 59) [.t 41],.nchk (some 43) (.t 42),.f 44 3 43,.l 45 44,.m 2 45,.mov (some 3) (.i 0)] <|
 .ret
abbrev Is36 (P:Program) (F T:Nat→Nat):Prop:=Fn P (F 36) 46 [(2,none),(3,none)] (c36 F T)
def c57 (F T:Nat→Nat):C :=
 .n [.box 5 (T 8) (.t 2)] <|
 .n [.m 7 1,.load (some 8) false 3 true (.t 5),.c 9 (F 68) [.t 7,.t 8],.m 6 9] <|
 .n [.f 10 0 5,.l 11 10] <|
 .block 0 <|
 .seq (.n [.bi 13 .eql 11 1,.m 12 13] <|
 .cond (.t 12)
 (.skip)
 (.o [.bi 14 .eql 11 2,.m 12 14])) <|
 .cond (.t 12)
 (.o [.m 15 0,.m 16 6,.e 17 86 (F 69) [.t 15,.t 16]])
 (.n [.bi 19 .eql 11 9,.m 18 19] <|
 .cond (.t 18)
 (.o [.m 20 0,.m 21 6,.build (some 22) [(.int .i64 0),(.int .i64 0),(.str []),.nils,.nils] [(0,1,(.i 2)),(2,1,(.t 21))],.e 23 86 (F 70) [.t 20,.t 22]])
 (.n [.bi 25 .eql 11 10,.m 24 25] <|
 .cond (.t 24)
 (.o [.m 26 0,.m 27 6,.m 28 6,.ls 29 28,.bi 30 .sub 29 9,.slcS (some 31) (.t 27) (some (.i 8)) (some (.t 30)),.build (some 32) [(.int .i64 0),(.int .i64 0),(.str []),.nils,.nils] [(0,1,(.i 3)),(2,1,(.t 31))],.e 33 86 (F 70) [.t 26,.t 32]])
 (.n [.bi 35 .eql 11 3,.m 34 35] <|
 .cond (.t 34)
 (.o [.m 36 0,.m 37 6,.ls 38 37,.build (some 39) [(.int .i64 0),(.int .i64 0),(.int .i64 0),.nils,.nils] [(0,1,(.i 3)),(2,1,(.t 38))],.box 40 (T 5) (.t 39),.m 41 6,.e 42 86 (F 71) [.t 36,.t 40,.t 41]])
 (.n [.bi 44 .eql 11 5,.m 43 44] <|
 .cond (.t 43)
 (.o [.m 45 0,.build (some 46) [(.int .i64 0),(.int .i64 0),(.int .i64 0),.nils,.nils] [(0,1,(.i 1))],.box 47 (T 5) (.t 46),.m 48 6,.e 49 86 (F 71) [.t 45,.t 47,.t 48]])
 (.n [.bi 51 .eql 11 11,.m 50 51] <|
 .cond (.t 50)
 (.o [.m 52 0,.m 53 1,.load (some 54) false 3 true (.t 5),.c 55 (F 72) [.t 53,.t 54],.build (some 56) [(.int .i64 0),(.int .i64 0),(.int .i64 0),.nils,.nils] [(0,1,(.i 2)),(1,1,(.t 55))],.box 57 (T 5) (.t 56),.m 58 6,.e 59 86 (F 71) [.t 52,.t 57,.t 58]])
 (.n [.bi 61 .eql 11 7,.m 60 61] <|
 .cond (.t 60)
 (.o [.m 62 0,.e 63 86 (F 73) [.t 62]])
 (.n [.bi 65 .eql 11 8,.m 64 65] <|
 .cond (.t 64)
 (.o [.m 66 0,.e 67 86 (F 74) [.t 66]])
 (.n [.bi 69 .eql 11 6,.m 68 69] <|
 .cond (.t 68)
 (.o [.m 70 0,.e 71 86 (F 75) [.t 70]])
 (.n [.bi 73 .eql 11 12,.m 72 73] <|
 .cond (.t 72)
 (.o [.m 74 0,.m 75 1,.load (some 76) false 3 true (.t 5),.c 77 (F 72) [.t 75,.t 76],.m 78 6,.e 79 86 (F 76) [.t 74,.t 77,.t 78]])
 (.n [.bi 81 .eql 11 4,.m 80 81] <|
 .cond (.t 80)
 (.o [.m 82 0,.m 83 6,.ls 84 83,.e 85 86 (F 77) [.t 82,.t 84]])
 (.skip)))))))))))
abbrev Is57 (P:Program) (F T:Nat→Nat):Prop:=Fn P (F 57) 86 [] (c57 F T)
def c58 (F T:Nat→Nat):C :=
 .n [.m 5 0,.e 6 63 (F 78) [.t 5],.m 2 6] <|
 .seqc (.n [.m 7 2,.nchk (some 8) (.t 7),.f 9 0 8,.l 10 9] <|
 .block 0 <|
 .n [.bi 12 .eql 10 1,.m 11 12] <|
 .cond (.t 11)
 (.o [.m 13 0,.e 14 63 (F 69) [.t 13,.s [91,91]]])
 (.n [.bi 16 .eql 10 2,.m 15 16] <|
 .cond (.t 15)
 (.o [.m 17 0,.m 18 2,.nchk (some 19) (.t 18),.f 20 1 19,.l 21 20,.c 22 (F 79) [.t 21],.e 23 63 (F 69) [.t 17,.t 22]])
 (.n [.bi 25 .eql 10 3,.m 24 25] <|
 .cond (.t 24)
 (.o [.m 26 0,.m 27 2,.nchk (some 28) (.t 27),.f 29 2 28,.l 30 29,.c 31 (F 42) [.s [123],.t 30],.e 32 63 (F 69) [.t 26,.t 31]])
 (.skip)))) <|
 .n [.m 33 0,.m 34 2,.nchk (some 35) (.t 34),.f 36 3 35,.l 37 36,.e 38 63 (F 80) [.t 33,.t 37]] <|
 .n [.m 39 2,.nchk (some 40) (.t 39),.f 41 4 40,.l 42 41,.ll 43 42,.mov (some 44) (.i 0)] <|
 .block 1 <|
 .loop <|
 .n [.b 45 .lss 44 43] <|
 .seq (.cond (.t 45)
 (.skip)
 (.exit 1)) <|
 .seq (.block 2 <|
 .n [.ia 46 3 42 44,.load (some 47) false 3 true (.t 46),.alloc 4 (T 1) [(.bool false),.nils,.nils],.store 3 (.t 4) (.t 47)] <|
 .n [.m 48 0,.e 49 63 (F 69) [.t 48,.s [124]]] <|
 .seq (.n [.f 50 0 4,.l 51 50] <|
 .cond (.t 51)
 (.n [.m 52 0,.f 53 1 4,.l 54 53,.e 55 63 (F 80) [.t 52,.t 54]] <|
 .o [.m 56 0,.e 57 63 (F 69) [.t 56,.s [61]]])
 (.skip)) <|
 .o [.m 58 0,.f 59 2 4,.l 60 59,.e 61 63 (F 80) [.t 58,.t 60]]) <|
 .o [.bi 62 .add 44 1,.m 44 62]
abbrev Is58 (P:Program) (F T:Nat→Nat):Prop:=Fn P (F 58) 63 [] (c58 F T)
def c59 (F T:Nat→Nat):C :=
 .n [.mov (some 2) (.k .nilp)] <|
 .seq (.p [.m 3 0,.nchk (some 4) (.t 3),.f 5 0 4,.l 6 5,.m 7 0,.nchk (some 8) (.t 7),.f 9 0 8,.l 10 9,.ll 11 10,.bi 12 .sub 11 1,.ia 13 1 6 12,.l 14 13,.m 2 14]) <|
 .ret
abbrev Is59 (P:Program) (F T:Nat→Nat):Prop:=Fn P (F 59) 15 [(2,none)] (c59 F T)
def c69 (F T:Nat→Nat):C :=
 .seq (.n [.m 6 1,.bin (some 7) .eql (.t 6) (.s [])] <|
 .cond (.t 7)
 (.ret)
 (.skip)) <|
 .n [.m 8 0,.e 9 50 (F 59) [.t 8],.e 10 50 (F 106) [.t 9],.m 4 10] <|
 .seq (.n [.m 11 4,.nchk (some 12) (.t 11),.l 13 12,.ll 14 13,.m 5 14] <|
 .seq (.ops false [⟨none,[.m 15 5,.bi 16 .gtr 15 0,.m 17 16]⟩,
 ⟨some (17,true),[.m 18 4,.nchk (some 19) (.t 18),.l 20 19,.m 21 5,.bi 22 .sub 21 1,.ia 23 5 20 22,.f 24 0 23,.l 25 24,.bi 26 .eql 25 1]⟩,
 ⟨none,[.pf 27 17 26]⟩]) <|
 .cond (.t 27)
 (.n [.m 28 4,.nchk (some 29) (.t 28),.l 30 29,.m 31 5,.bi 32 .sub 31 1,.ia 33 5 30 32,.f 34 2 33,.l 35 34,.m 36 1,.b 37 .add 35 36,.ia 38 5 30 32,.f 39 2 38,.store 1 (.t 39) (.t 37)] <|
 .ret)
 (.skip)) <|
 .p [.m 40 4,.nchk (some 41) (.t 40),.l 42 41,.m 43 1,.build (some 44) [(.int .i64 0),(.int .i64 0),(.str []),.nils,.nils] [(0,1,(.i 1)),(2,1,(.t 43))],.ll 45 42,.mkl (some 46) 5 [(.k (.agg [(.int .i64 0),(.int .i64 0),(.str []),.nils,.nils]))],.app 47 (T 0) 5 (.t 42) (.t 46),.ia 48 5 47 45,.stq true 5 (.t 48) (.t 44),.nchk (some 49) (.t 40),.stq false 1 (.t 49) (.t 47)]
abbrev Is69 (P:Program) (F T:Nat→Nat):Prop:=Fn P (F 69) 50 [] (c69 F T)
def c70 (F T:Nat→Nat):C :=
 .seq (.gha (.frzb 3) <| .o [.box 3 (T 0) (.t 1)]) <|
 .n [.m 5 0,.e 6 17 (F 59) [.t 5],.e 7 17 (F 106) [.t 6],.m 4 7] <|
 .p [.m 8 4,.nchk (some 9) (.t 8),.l 10 9,.load (some 11) true 5 true (.t 3),.ll 12 10,.mkl (some 13) 5 [(.k (.agg [(.int .i64 0),(.int .i64 0),(.str []),.nils,.nils]))],.app 14 (T 0) 5 (.t 10) (.t 13),.ia 15 5 14 12,.stq true 5 (.t 15) (.t 11),.nchk (some 16) (.t 8),.stq false 1 (.t 16) (.t 14)]
abbrev Is70 (P:Program) (F T:Nat→Nat):Prop:=Fn P (F 70) 17 [] (c70 F T)
def c71 (F T:Nat→Nat):C :=
 .seq (.n [.m 6 0,.nchk (some 7) (.t 6),.f 8 0 7,.l 9 8,.ll 10 9,.bi 11 .gtr 10 20] <|
 .cond (.t 11)
 (.n [.m 12 0,.m 13 2,.e 14 25 (F 69) [.t 12,.t 13]] <|
 .ret)
 (.skip)) <|
 .o [.m 15 0,.m 16 0,.nchk (some 17) (.t 16),.f 18 0 17,.l 19 18,.m 20 1,.mkl (some 21) 1 [.t 20],.app 22 (T 6) 1 (.t 19) (.t 21),.nchk (some 23) (.t 15),.f 24 0 23,.store 1 (.t 24) (.t 22)]
abbrev Is71 (P:Program) (F T:Nat→Nat):Prop:=Fn P (F 71) 25 [] (c71 F T)
def c73 (F T:Nat→Nat):C :=
 .seq (.n [.m 3 0,.e 4 22 (F 59) [.t 3],.m 2 4] <|
 .n [.m 5 2,.nchk (some 6) (.t 5),.f 7 0 6,.l 8 7,.bi 9 .eql 8 3] <|
 .cond (.t 9)
 (.seq (.gh .fz <| .o [.m 10 2,.m 11 2,.nchk (some 12) (.t 11),.f 13 4 12,.l 14 13,.build (some 15) [(.bool false),.nils,.nils] [],.mkl (some 16) 3 [.t 15],.app 17 (T 1) 3 (.t 14) (.t 16),.nchk (some 18) (.t 10),.f 19 4 18,.store 1 (.t 19) (.t 17)]) <|
 .ret)
 (.skip)) <|
 .o [.m 20 0,.e 21 22 (F 69) [.t 20,.s [124]]]
abbrev Is73 (P:Program) (F T:Nat→Nat):Prop:=Fn P (F 73) 22 [] (c73 F T)
def c74 (F T:Nat→Nat):C :=
 .n [.m 4 0,.e 5 51 (F 59) [.t 4],.m 2 5] <|
 .seq (.n [.m 6 2,.nchk (some 7) (.t 6),.f 8 4 7,.l 9 8,.ll 10 9,.m 3 10] <|
 .seq (.ops false [⟨none,[.m 11 2,.nchk (some 12) (.t 11),.f 13 0 12,.l 14 13,.bi 15 .eql 14 3,.m 16 15]⟩,
 ⟨some (16,true),[.m 17 3,.bi 18 .gtr 17 0]⟩,
 ⟨none,[.pf 19 16 18,.m 20 19]⟩,
 ⟨some (20,true),[.m 21 2,.nchk (some 22) (.t 21),.f 23 4 22,.l 24 23,.m 25 3,.bi 26 .sub 25 1,.ia 27 3 24 26,.f 28 0 27,.l 29 28,.un (some 30) .not (.t 29)]⟩,
 ⟨none,[.pf 31 20 30]⟩]) <|
 .cond (.t 31)
 (.seq (.gh .fz <| .p [.m 32 2,.nchk (some 33) (.t 32),.f 34 4 33,.l 35 34,.m 36 3,.bi 37 .sub 36 1,.m 38 2,.nchk (some 39) (.t 38),.f 40 4 39,.l 41 40,.m 42 3,.bi 43 .sub 42 1,.ia 44 3 41 43,.f 45 2 44,.l 46 45,.build (some 47) [(.bool false),.nils,.nils] [(0,1,(.k (.bool true))),(1,1,(.t 46))],.ia 48 3 35 37,.store 3 (.t 48) (.t 47)]) <|
 .ret)
 (.skip)) <|
 .o [.m 49 0,.e 50 51 (F 69) [.t 49,.s [61]]]
abbrev Is74 (P:Program) (F T:Nat→Nat):Prop:=Fn P (F 74) 51 [] (c74 F T)
def c75 (F T:Nat→Nat):C :=
 .seq (.n [.m 3 0,.e 4 23 (F 59) [.t 3],.nchk (some 5) (.t 4),.f 6 0 5,.l 7 6,.bi 8 .neq 7 1] <|
 .cond (.t 8)
 (.n [.m 9 0,.e 10 23 (F 69) [.t 9,.s [93,93]]] <|
 .ret)
 (.skip)) <|
 .n [.m 11 0,.e 12 23 (F 78) [.t 11],.m 2 12] <|
 .n [.m 13 0,.e 14 23 (F 69) [.t 13,.s [91,91]]] <|
 .n [.m 15 0,.m 16 2,.nchk (some 17) (.t 16),.f 18 3 17,.l 19 18,.e 20 23 (F 80) [.t 15,.t 19]] <|
 .o [.m 21 0,.e 22 23 (F 69) [.t 21,.s [93,93]]]
abbrev Is75 (P:Program) (F T:Nat→Nat):Prop:=Fn P (F 75) 23 [] (c75 F T)
def c76 (F T:Nat→Nat):C :=
 .n [.m 8 0,.nchk (some 9) (.t 8),.f 10 0 9,.l 11 10,.ll 12 11,.bi 13 .sub 12 1,.m 6 13] <|
 .seq (.block 0 <|
 .loop <|
 .seq (.seq (.ops false [⟨none,[.m 14 6,.bi 15 .gtr 14 0,.m 16 15]⟩,
 ⟨some (16,true),[.m 17 0,.nchk (some 18) (.t 17),.f 19 0 18,.l 20 19,.m 21 6,.ia 22 1 20 21,.l 23 22,.nchk (some 24) (.t 23),.f 25 0 24,.l 26 25,.bi 27 .neq 26 2,.m 28 27]⟩,
 ⟨some (28,false),[.m 29 0,.nchk (some 30) (.t 29),.f 31 0 30,.l 32 31,.m 33 6,.ia 34 1 32 33,.l 35 34,.nchk (some 36) (.t 35),.f 37 1 36,.l 38 37,.m 39 1,.b 40 .neq 38 39]⟩,
 ⟨some (16,true),[.pt 41 28 40]⟩,
 ⟨none,[.pf 42 16 41]⟩]) <|
 .cond (.t 42)
 (.skip)
 (.exit 0)) <|
 .block 1 <|
 .o [.m 43 6,.bi 44 .sub 43 1,.m 6 44]) <|
 .seq (.n [.m 45 6,.bi 46 .eql 45 0] <|
 .cond (.t 46)
 (.n [.m 47 0,.m 48 2,.e 49 70 (F 69) [.t 47,.t 48]] <|
 .ret)
 (.skip)) <|
 .seq (.block 2 <|
 .loop <|
 .seq (.n [.m 50 0,.nchk (some 51) (.t 50),.f 52 0 51,.l 53 52,.ll 54 53,.m 55 6,.bi 56 .add 55 1,.b 57 .gtr 54 56] <|
 .cond (.t 57)
 (.skip)
 (.exit 2)) <|
 .block 3 <|
 .o [.m 58 0,.e 59 70 (F 58) [.t 58]]) <|
 .n [.m 60 0,.e 61 70 (F 78) [.t 60],.m 7 61] <|
 .o [.m 62 0,.m 63 1,.m 64 7,.nchk (some 65) (.t 64),.f 66 3 65,.l 67 66,.build (some 68) [(.int .i64 0),(.int .i64 0),(.str []),.nils,.nils] [(0,1,(.i 6)),(1,1,(.t 63)),(3,1,(.t 67))],.e 69 70 (F 70) [.t 62,.t 68]]
abbrev Is76 (P:Program) (F T:Nat→Nat):Prop:=Fn P (F 76) 70 [] (c76 F T)
def c77 (F T:Nat→Nat):C :=
 .seq (.block 0 <|
 .loop <|
 .seq (.n [.m 9 1,.bi 10 .geq 9 2] <|
 .cond (.t 10)
 (.skip)
 (.exit 0)) <|
 .block 1 <|
 .n [.m 11 0,.e 12 86 (F 108) [.t 11],.m 4 12] <|
 .seq (.n [.m 13 4,.bi 14 .eql 13 0] <|
 .cond (.t 14)
 (.exit 0)
 (.skip)) <|
 .seq (.block 2 <|
 .loop <|
 .seq (.n [.m 15 0,.nchk (some 16) (.t 15),.f 17 0 16,.l 18 17,.ll 19 18,.m 20 4,.bi 21 .add 20 1,.b 22 .gtr 19 21] <|
 .cond (.t 22)
 (.skip)
 (.exit 2)) <|
 .block 3 <|
 .o [.m 23 0,.e 24 86 (F 58) [.t 23]]) <|
 .n [.m 25 0,.e 26 86 (F 59) [.t 25],.m 5 26] <|
 .n [.mov (some 6) (.i 2),.mov (some 7) (.i 4)] <|
 .seqc (.seq (.ops false [⟨none,[.m 27 1,.bi 28 .geq 27 3,.m 29 28]⟩,
 ⟨some (29,true),[.m 30 5,.nchk (some 31) (.t 30),.f 32 2 31,.l 33 32,.bi 34 .geq 33 3]⟩,
 ⟨none,[.pf 35 29 34]⟩]) <|
 .cond (.t 35)
 (.o [.mov (some 6) (.i 3),.mov (some 7) (.i 5)])
 (.skip)) <|
 .seq (.gh .fz <| .p [.m 36 7,.m 37 5,.nchk (some 38) (.t 37),.f 39 3 38,.l 40 39,.m 41 5,.nchk (some 42) (.t 41),.f 43 4 42,.l 44 43,.build (some 45) [(.int .i64 0),(.int .i64 0),(.str []),.nils,.nils] [(0,1,(.t 36)),(3,1,(.t 40)),(4,1,(.t 44))],.alloc 8 (T 0) [(.int .i64 0),(.int .i64 0),(.str []),.nils,.nils],.store 5 (.t 8) (.t 45)]) <|
 .n [.m 46 1,.m 47 6,.b 48 .sub 46 47,.m 1 48] <|
 .n [.m 49 5,.nchk (some 50) (.t 49),.f 51 2 50,.l 52 51,.m 53 6,.b 54 .sub 52 53,.nchk (some 55) (.t 49),.f 56 2 55,.store 1 (.t 56) (.t 54)] <|
 .seq (.n [.m 57 5,.nchk (some 58) (.t 57),.f 59 2 58,.l 60 59,.bi 61 .geq 60 2] <|
 .cond (.t 61)
 (.n [.m 62 5,.m 63 5,.load (some 64) false 5 true (.t 8),.mkv 65 (T 0) 5 [.t 64],.nchk (some 66) (.t 62),.f 67 3 66,.store 1 (.t 67) (.t 65),.nchk (some 68) (.t 63),.f 69 4 68,.store 1 (.t 69) (.k .nils)] <|
 .exit 1)
 (.skip)) <|
 .n [.m 70 0,.e 71 86 (F 78) [.t 70]] <|
 .seq (.n [.m 72 5,.nchk (some 73) (.t 72),.f 74 2 73,.l 75 74,.bi 76 .eql 75 1] <|
 .cond (.t 76)
 (.o [.m 77 0,.e 78 86 (F 69) [.t 77,.s [123]]])
 (.skip)) <|
 .o [.m 79 0,.load (some 80) false 5 true (.t 8),.e 81 86 (F 70) [.t 79,.t 80]]) <|
 .o [.m 82 0,.m 83 1,.c 84 (F 42) [.s [125],.t 83],.e 85 86 (F 69) [.t 82,.t 84]]
abbrev Is77 (P:Program) (F T:Nat→Nat):Prop:=Fn P (F 77) 86 [] (c77 F T)
def c78 (F T:Nat→Nat):C :=
 .seq (.gh .fz <| .o [.mov (some 2) (.k .nilp)]) <|
 .n [.m 4 0,.e 5 21 (F 59) [.t 4],.m 3 5] <|
 .seq (.p [.m 6 0,.m 7 0,.nchk (some 8) (.t 7),.f 9 0 8,.l 10 9,.m 11 0,.nchk (some 12) (.t 11),.f 13 0 12,.l 14 13,.ll 15 14,.bi 16 .sub 15 1,.slc (some 17) 1 (.t 10) none (some (.t 16)),.nchk (some 18) (.t 6),.f 19 0 18,.store 1 (.t 19) (.t 17)]) <|
 .n [.m 20 3,.m 2 20] <|
 .ret
abbrev Is78 (P:Program) (F T:Nat→Nat):Prop:=Fn P (F 78) 21 [(2,none)] (c78 F T)
def c79 (F T:Nat→Nat):C :=
 .n [.mov (some 2) (.s [])] <|
 .n [.build (some 3) [(.str []),(.str []),(.str [])] [(0,1,(.s [110,111,105,110,99,108,117,100,101])),(1,1,(.s [105,110,99,108,117,100,101,111,110,108,121])),(2,1,(.s [111,110,108,121,105,110,99,108,117,100,101]))],.m 4 0,.bi 5 .sub 4 1,.idxA (some 6) 3 1 false (.t 3) (.t 5),.bin (some 7) .add (.s [60]) (.t 6),.bin (some 8) .add (.t 7) (.s [62]),.m 2 8] <|
 .ret
abbrev Is79 (P:Program) (F T:Nat→Nat):Prop:=Fn P (F 79) 9 [(2,none)] (c79 F T)
def c80 (F T:Nat→Nat):C :=
 .n [.m 6 1,.ll 7 6,.mov (some 8) (.i 0)] <|
 .block 0 <|
 .loop <|
 .n [.b 9 .lss 8 7] <|
 .seq (.cond (.t 9)
 (.skip)
 (.exit 0)) <|
 .seq (.block 1 <|
 .n [.ia 10 5 6 8,.load (some 11) false 5 true (.t 10),.alloc 5 (T 0) [(.int .i64 0),(.int .i64 0),(.str []),.nils,.nils],.store 5 (.t 5) (.t 11)] <|
 .n [.f 12 0 5,.l 13 12,.bi 14 .eql 13 1] <|
 .cond (.t 14)
 (.o [.m 15 0,.f 16 2 5,.l 17 16,.e 18 23 (F 69) [.t 15,.t 17]])
 (.o [.m 19 0,.load (some 20) false 5 true (.t 5),.e 21 23 (F 70) [.t 19,.t 20]])) <|
 .o [.bi 22 .add 8 1,.m 8 22]
abbrev Is80 (P:Program) (F T:Nat→Nat):Prop:=Fn P (F 80) 23 [] (c80 F T)
def c106 (F T:Nat→Nat):C :=
 .n [.mov (some 2) (.k .nilp)] <|
 .seq (.n [.m 4 0,.nchk (some 5) (.t 4),.f 6 4 5,.l 7 6,.ll 8 7,.m 3 8] <|
 .seq (.ops false [⟨none,[.m 9 0,.nchk (some 10) (.t 9),.f 11 0 10,.l 12 11,.bi 13 .eql 12 3,.m 14 13]⟩,
 ⟨some (14,true),[.m 15 3,.bi 16 .gtr 15 0]⟩,
 ⟨none,[.pf 17 14 16]⟩]) <|
 .cond (.t 17)
 (.n [.m 18 0,.nchk (some 19) (.t 18),.f 20 4 19,.l 21 20,.m 22 3,.bi 23 .sub 22 1,.ia 24 3 21 23,.f 25 2 24,.m 2 25] <|
 .ret)
 (.skip)) <|
 .n [.m 26 0,.nchk (some 27) (.t 26),.f 28 3 27,.m 2 28] <|
 .ret
abbrev aHb (P:Program) (F T:Nat→Nat):Prop:=Fn P (F 106) 29 [(2,none)] (c106 F T)
def c108 (F T:Nat→Nat):C :=
 .n [.mov (some 2) (.i 0)] <|
 .seq (.n [.m 4 0,.nchk (some 5) (.t 4),.f 6 0 5,.l 7 6,.ll 8 7,.bi 9 .sub 8 1,.m 3 9] <|
 .block 0 <|
 .loop <|
 .seq (.seq (.ops false [⟨none,[.m 10 3,.bi 11 .gtr 10 0,.m 12 11]⟩,
 ⟨some (12,true),[.m 13 0,.nchk (some 14) (.t 13),.f 15 0 14,.l 16 15,.m 17 3,.ia 18 1 16 17,.l 19 18,.nchk (some 20) (.t 19),.f 21 0 20,.l 22 21,.bi 23 .neq 22 2]⟩,
 ⟨none,[.pf 24 12 23]⟩]) <|
 .cond (.t 24)
 (.skip)
 (.exit 0)) <|
 .seq (.block 1 <|
 .n [.m 27 0,.nchk (some 28) (.t 27),.f 29 0 28,.l 30 29,.m 31 3,.ia 32 1 30 31,.l 33 32,.nchk (some 34) (.t 33),.f 35 0 34,.l 36 35,.bi 37 .eql 36 3] <|
 .cond (.t 37)
 (.n [.m 38 3,.m 2 38] <|
 .ret)
 (.skip)) <|
 .o [.m 25 3,.bi 26 .sub 25 1,.m 3 26]) <|
 .n [.mov (some 2) (.i 0)] <|
 .ret
abbrev bBf (P:Program) (F T:Nat→Nat):Prop:=Fn P (F 108) 39 [(2,none)] (c108 F T)
end Go.Ab
namespace Go.Ab
def ln (z:Nat):List V→V
 | []=>.nils
 | x::r=>.lst z (x::r)
theorem bF5 {z:Nat} {x:V} {r:List V}:ln z (x::r)=.lst z (x::r):=rfl
theorem bKu {z:Nat}:ln z []=.nils:=rfl
theorem bGx {z:Nat} {l:List V} (h:l≠[]):ln z l=.lst z l:=by cases l with | nil=>exact absurd rfl h | cons x r=>rfl
theorem bFr {z:Nat} {a:List V} {x:V}:ln z (a++[x])=.lst z (a++[x]):=bGx (by simp)
theorem aD2 {z:Nat} {l:List V}:(ln z l).imm=V.imms l:=by cases l <;> simp [ln,V.imm,V.imms]
theorem bE6 {z:Nat} {l:List V}:(ln z l).one=true:=by cases l <;> rfl
theorem bCk {z:Nat} {l:List V}:(ln z l).cells=[ln z l]:=by cases l <;> rfl
theorem aZe {z:Nat} {l:List V}:(ln z l).ncells=some 1:=by cases l <;> rfl
theorem bDc {s:St} {K:St→Prop} {d:Option Nat} {z:Nat} {l:List V}:aHc d false (ln z l) s K=K (s.setO d (.int .i64 l.length)):=by
 cases l <;> simp [ln,aHc]
theorem aVk {z:Nat} {L:Heap} {l:List V} {K:List V→Prop}:aAn z L (ln z l) K=K l:=by cases l <;> simp [ln,aAn]
theorem aWt {s:St} {K:St→Prop} {d:Option Nat} {z:Nat} {l:List V} {k:IntKind} {n:Int}:aGs d z (ln z l) (.int k n) s K=(0≤n∧n.toNat<l.length∧K (s.setO d (.cptr (l.getD n.toNat .junk).cells))):=by
 cases l <;> simp [ln,aGs]
theorem aYx {z:Nat} {a b:List V} (h:V.leL a b):V.le (ln z a) (.lst z b):=by
 cases a with
 | nil=>simp only [V.leL] at h; subst h; simp [ln,V.le]
 | cons x r=>simp only [ln,V.le]; exact ⟨b,rfl,h⟩
mutual
def Node.vs:Node→List V
 | .mk k t s ks as=>[.int .i64 k,.int .i64 t,.str s,ln 5 (vns ks),ln 3 (vas as)]
def vns:List Node→List V
 | []=>[]
 | n::r=>.agg n.vs::vns r
def Arg.vs:Arg→List V
 | .mk b n v=>[.bool b,ln 5 (vns n),ln 5 (vns v)]
def vas:List Arg→List V
 | []=>[]
 | n::r=>.agg n.vs::vas r
end
theorem aFa (a b:List Node):vns (a++b)=vns a++vns b:=by
 induction a with
 | nil=>rfl
 | cons x r ih=>simp [vns,ih]
theorem aAz (a:List Node):(vns a).length=a.length:=by
 induction a with
 | nil=>rfl
 | cons x r ih=>simp [vns,ih]
theorem aIe (a b:List Arg):vas (a++b)=vas a++vas b:=by
 induction a with
 | nil=>rfl
 | cons x r ih=>simp [vas,ih]
theorem aBk (a:List Arg):(vas a).length=a.length:=by
 induction a with
 | nil=>rfl
 | cons x r ih=>simp [vas,ih]
theorem bK6 (a:List Node) (x:Node) (r:List Node):(vns (a++x::r)).getD a.length .junk=.agg x.vs:=by
 rw [aFa,← aAz a,List.getD_eq_getElem?_getD,List.getElem?_append_right (Nat.le_refl _)]; simp [vns]
theorem bKe (a:List Arg) (x:Arg) (r:List Arg):(vas (a++x::r)).getD a.length .junk=.agg x.vs:=by
 rw [aIe,← aBk a,List.getD_eq_getElem?_getD,List.getElem?_append_right (Nat.le_refl _)]; simp [vas]
mutual
theorem aMg:∀ n:Node,V.imms n.vs=true
 | .mk k t s ks as=>by simp [Node.vs,V.imms,V.imm,aD2,aA5 ks,aC2 as]
theorem aA5:∀ l:List Node,V.imms (vns l)=true
 | []=>by simp [vns,V.imms]
 | n::r=>by simp [vns,V.imms,V.imm,aMg n,aA5 r]
theorem aSl:∀ n:Arg,V.imms n.vs=true
 | .mk b n v=>by simp [Arg.vs,V.imms,V.imm,aD2,aA5 n,aA5 v]
theorem aC2:∀ l:List Arg,V.imms (vas l)=true
 | []=>by simp [vas,V.imms]
 | n::r=>by simp [vas,V.imms,V.imm,aSl n,aC2 r]
end
mutual
theorem bNt:∀ n:Node,V.leL n.vs n.cs
 | .mk k t s ks as=>by simp only [Node.vs,Node.cs,aFm,aMy]; exact ⟨V.le_refl _,V.le_refl _,V.le_refl _,aYx (aPc ks),aYx (bE2 as),trivial⟩
theorem aPc:∀ l:List Node,V.leL (vns l) (encs l)
 | []=>by simp [vns,encs,V.leL]
 | n::r=>by simp only [vns,encs,aFm,bAd]; exact ⟨bNt n,aPc r⟩
theorem bJm:∀ n:Arg,V.leL n.vs n.cs
 | .mk b n v=>by simp only [Arg.vs,Arg.cs,aFm,aMy]; exact ⟨V.le_refl _,aYx (aPc n),aYx (aPc v),trivial⟩
theorem bE2:∀ l:List Arg,V.leL (vas l) (encA l)
 | []=>by simp [vas,encA,V.leL]
 | n::r=>by simp only [vas,encA,aFm,bAd]; exact ⟨bJm n,bE2 r⟩
end
attribute [push_cast] bF5 bKu bFr aD2 bE6 bCk aZe bDc aVk aWt aAz aBk bK6 bKe aMg aA5 aSl aC2
def El.pot (e:El):Nat:=30+2*e.count+aAq e.list+aBb e.args+5*e.args.length
def pot:List El→Nat
 | []=>0
 | e::r=>e.pot+pot r
def tns (l:List Node):Prop:=∀ n,n∈l→n.tn
structure El.ok (e:El):Prop where
 tag:e.kind=2→1≤e.tag∧e.tag≤3
 list:tns e.list
 args:∀ a,a∈e.args→tns a.nm∧tns a.val
def aCi:List Arg→List Node
 | []=>[]
 | [a]=>a.val
 | _::b::r=>aCi (b::r)
def vasO (vv:V):List Arg→List V
 | []=>[]
 | [a]=>[.agg [.bool a.named,ln 5 (vns a.nm),vv]]
 | a::b::r=>.agg a.vs::vasO vv (b::r)
theorem aAw (i:List Arg) (a:Arg):aCi (i++[a])=a.val:=by
 induction i with
 | nil=>rfl
 | cons x r ih=>cases r with | nil=>rfl | cons y q=>simpa [aCi] using ih
theorem aDx (vv:V) (i:List Arg) (a:Arg):vasO vv (i++[a])=vas i++[.agg [.bool a.named,ln 5 (vns a.nm),vv]]:=by
 induction i with
 | nil=>rfl
 | cons x r ih=>cases r with | nil=>simp [vasO,vas] | cons y q=>simpa [vasO,vas] using ih
theorem aBo (f:Arg→Arg) (i:List Arg) (a:Arg):aEl f (i++[a])=i++[f a]:=by
 induction i with
 | nil=>rfl
 | cons x r ih=>cases r with | nil=>rfl | cons y q=>simpa [aEl] using ih
theorem aEv (i:List Arg) (a:Arg):aEz (i++[a])=a.named:=by
 induction i with
 | nil=>rfl
 | cons x r ih=>cases r with | nil=>rfl | cons y q=>simpa [aEz] using ih
theorem aG3 (l:List Arg):vasO (ln 5 (vns (aCi l))) l=vas l:=by
 rcases List.eq_nil_or_concat l with rfl | ⟨i,a,rfl⟩
 ·rfl
 ·obtain ⟨b,n,v⟩:=a
  rw [List.concat_eq_append,aAw,aDx,aIe]; simp [vas,Arg.vs,Arg.named,Arg.nm,Arg.val]
structure EH where
 e:El
 id:Nat
 li:Option Nat
 ai:Option Nat
 vi:Option Nat
def lvO (z len:Nat) (v:V):Option Nat→V
 | none=>v
 | some i=>.own i z 0 len
def EH.lv (h:EH):V:=lvO 5 h.e.list.length (ln 5 (vns h.e.list)) h.li
def EH.vv (h:EH):V:=lvO 5 (aCi h.e.args).length (ln 5 (vns (aCi h.e.args))) h.vi
def EH.av (h:EH):V:=lvO 3 h.e.args.length (ln 3 (vas h.e.args)) h.ai
def EH.cells (h:EH):List V:=[.int .i64 h.e.kind,.int .i64 h.e.tag,.int .i64 h.e.count,h.lv,h.av]
def EH.fp (h:EH):List Nat:=h.id::(h.li.toList++h.ai.toList++h.vi.toList)
structure At (T:Nat→Nat) (L:Heap) (h:EH):Prop where
 box:L h.id=some (.box (T 5) h.cells)
 li:∀ i,h.li=some i→L i=some (.vec (T 0) 5 (vns h.e.list))∧h.e.list≠[]
 ai:∀ i,h.ai=some i→L i=some (.vec (T 1) 3 (vasO h.vv h.e.args))∧h.e.args≠[]
 vi:∀ i,h.vi=some i→L i=some (.vec (T 0) 5 (vns (aCi h.e.args)))∧aCi h.e.args≠[]∧h.ai≠none
structure EH.live (h:EH):Prop where
 li:h.li=none→h.e.list=[]
 ai:h.ai=none→h.e.args=[]
 vi:h.vi=none→aCi h.e.args=[]
def EH.pt (h:EH):V:=.ptr h.id 0
structure Stx (T:Nat→Nat) (z:Bool) (L:Heap) (nx:Nat) (F:List Nat) (p:Nat) (els:List El) (sid:Nat) (jk:List V) (hs:List EH):Prop where
 foot:F=p::sid::hs.flatMap EH.fp
 map:hs.map EH.e=els
 box:L p=some (.box (T 7) [.own sid 1 0 hs.length])
 stk:L sid=some (.vec (T 6) 1 (hs.reverse.map EH.pt++jk))
 at_:∀ h,h∈hs→At T L h
 live:∀ h,h∈(if z then hs.tail else hs)→h.live
 nodup:F.Nodup
 lt:∀ i,i∈F→i<nx
 ok:∀ e,e∈els→e.ok
def Stk (T:Nat→Nat) (z:Bool) (L:Heap) (nx:Nat) (F:List Nat) (p:Nat) (els:List El):Prop:=∃ sid jk hs,Stx T z L nx F p els sid jk hs
structure Stp (L:Heap) (nx:Nat) (F:List Nat) (L':Heap) (nx':Nat) (F':List Nat):Prop where
 le:nx≤nx'
 sub:∀ i,i∈F'→i∈F∨nx≤i
 fr:∀ i ty cs,i<nx→i∉F→L i=some (.box ty cs)→V.imms cs=true→L' i=some (.box ty cs)
theorem Stp.refl (L:Heap) (nx:Nat) (F:List Nat):Stp L nx F L nx F:=⟨Nat.le_refl _,fun i h=>.inl h,fun i ty cs _ _ h _=>h⟩
theorem Stp.trans {L L' L'':Heap} {nx nx' nx'':Nat} {F F' F'':List Nat} (h:Stp L nx F L' nx' F') (k:Stp L' nx' F' L'' nx'' F''):Stp L nx F L'' nx'' F'' :=
 ⟨Nat.le_trans h.le k.le,fun i hi=>(k.sub i hi).elim (h.sub i) fun hh=>.inr (Nat.le_trans h.le hh),fun i ty cs h1 h2 h3 h4=>k.fr i ty cs (Nat.lt_of_lt_of_le h1 h.le) (fun hi=>(h.sub i hi).elim h2 fun hh=>absurd h1 (Nat.not_lt.2 hh)) (h.fr i ty cs h1 h2 h3 h4) h4⟩
theorem Stp.grow {L L':Heap} {nx nx':Nat} {F:List Nat} (hle:nx≤nx') (h:∀ i,i<nx→L' i=L i):Stp L nx F L' nx' F:=⟨hle,fun i hi=>.inl hi,fun i ty cs h1 _ h3 _=>by rw [h i h1]; exact h3⟩
theorem At.frame {T:Nat→Nat} {L L':Heap} {h:EH} (ha:At T L h) (hf:∀ i,i∈h.fp→L' i=L i):At T L' h :=
 ⟨by rw [hf _ (by simp [EH.fp])]; exact ha.box,fun i hi=>by rw [hf _ (by simp [EH.fp,hi])]; exact ha.li i hi,fun i hi=>by rw [hf _ (by simp [EH.fp,hi])]; exact ha.ai i hi,fun i hi=>by rw [hf _ (by simp [EH.fp,hi])]; exact ha.vi i hi⟩
theorem Stx.grow {T:Nat→Nat} {z:Bool} {L:Heap} {nx nx':Nat} {F:List Nat} {p:Nat} {els:List El} {sid:Nat} {jk:List V} {hs:List EH} (h:Stx T z L nx F p els sid jk hs) (hle:nx≤nx'):Stx T z L nx' F p els sid jk hs :=
 ⟨h.foot,h.map,h.box,h.stk,h.at_,h.live,h.nodup,fun i hi=>Nat.lt_of_lt_of_le (h.lt i hi) hle,h.ok⟩
theorem Stk.grow {T:Nat→Nat} {z:Bool} {L L':Heap} {nx nx':Nat} {F:List Nat} {p:Nat} {els:List El} (h:Stk T z L nx F p els) (hle:nx≤nx') (hL:∀ i,i<nx→L' i=L i):Stk T z L' nx' F p els:=by
 obtain ⟨sid,jk,hs,h⟩:=h
 have hF:=h.foot
 have e:∀ i,i∈F→L' i=L i:=fun i hi=>hL i (h.lt i hi)
 refine ⟨sid,jk,hs,h.foot,h.map,?_,?_,fun x hx=>(h.at_ x hx).frame fun i hi=>e i ?_,h.live,h.nodup,fun i hi=>Nat.lt_of_lt_of_le (h.lt i hi) hle,h.ok⟩
 ·rw [e p (by rw [hF]; simp)]; exact h.box
 ·rw [e sid (by rw [hF]; simp)]; exact h.stk
 ·rw [hF]; exact List.mem_cons_of_mem _ (List.mem_cons_of_mem _ (List.mem_flatMap.2 ⟨x,hx,hi⟩))
theorem Stx.topx {T:Nat→Nat} {z z':Bool} {L L':Heap} {nx nx':Nat} {F:List Nat} {p:Nat} {els:List El} {sid:Nat} {jk:List V} {h h':EH} {t:List EH} (hp:Stx T z L nx F p els sid jk (h::t))
 (hfr:∀ i,i<nx→i∉h.fp→L' i=L i) (hat:At T L' h') (hlive:z'=false→h'.live) (hid:h'.id=h.id) (hnd:h'.fp.Nodup) (hsub:∀ i,i∈h'.fp→i∈h.fp∨nx≤i) (hlt:∀ i,i∈h'.fp→i<nx') (hle:nx≤nx') (hok:h'.e.ok) :
 ∃ F',Stx T z' L' nx' F' p (h'.e::t.map EH.e) sid jk (h'::t)∧Stp L nx F L' nx' F':=by
 have hF:=hp.foot
 have hn:=hp.nodup
 rw [hF] at hn
 simp only [List.flatMap_cons,List.nodup_cons,List.mem_cons,List.mem_append,not_or,List.nodup_append] at hn
 obtain ⟨⟨n1,n2,n3⟩,⟨n4,n5⟩,n6,n7,n8⟩:=hn
 have lt:=hp.lt
 rw [hF] at lt
 simp only [List.flatMap_cons,List.mem_cons,List.mem_append] at lt
 refine ⟨p::sid::(h'::t).flatMap EH.fp,⟨rfl,rfl,?_,?_,?_,?_,?_,?_,?_⟩,hle,?_,?_⟩
 ·rw [hfr p (lt p (.inl rfl)) n2]; exact hp.box
 ·rw [hfr sid (lt sid (.inr (.inl rfl))) n4]
  have:=hp.stk
  simp only [List.reverse_cons,List.map_append,List.map_cons,List.map_nil,EH.pt] at this ⊢
  rw [hid]; exact this
 ·intro x hx
  rcases List.mem_cons.1 hx with rfl | hx
  ·exact hat
  ·refine (hp.at_ x (List.mem_cons_of_mem _ hx)).frame fun i hi=>?_
   have hm:i∈t.flatMap EH.fp:=List.mem_flatMap.2 ⟨x,hx,hi⟩
   exact hfr i (lt i (.inr (.inr (.inr hm)))) fun hc=>n8 i hc i hm rfl
 ·intro x hx
  have hl:=hp.live
  have rest:∀ y,y∈t→y.live:=fun y hy=>by
   cases z with
   | true=>exact hl y (by simpa using hy)
   | false=>exact hl y (by simp [hy])
  cases z' with
  | true=>exact rest x (by simpa using hx)
  | false =>
    rcases List.mem_cons.1 (by simpa using hx) with rfl | hx
    ·exact hlive rfl
    ·exact rest x hx
 ·simp only [List.flatMap_cons,List.nodup_cons,List.mem_cons,List.mem_append,not_or,List.nodup_append]
  have fresh:∀ i,i<nx→i∉h.fp→i∉h'.fp:=fun i h1 h2 h3=>(hsub i h3).elim h2 fun h=>absurd h1 (Nat.not_lt.2 h)
  exact ⟨⟨n1,fresh p (lt p (.inl rfl)) n2,n3⟩,⟨fresh sid (lt sid (.inr (.inl rfl))) n4,n5⟩,hnd,n7,fun a ha b hb e=>by
   subst e
   exact (hsub a ha).elim (fun h=>n8 a h a hb rfl) fun h=>absurd (lt a (.inr (.inr (.inr hb)))) (Nat.not_lt.2 h)⟩
 ·intro i hi
  simp only [List.flatMap_cons,List.mem_cons,List.mem_append] at hi
  rcases hi with rfl | rfl | hi | hi
  ·exact Nat.lt_of_lt_of_le (lt i (.inl rfl)) hle
  ·exact Nat.lt_of_lt_of_le (lt i (.inr (.inl rfl))) hle
  ·exact hlt i hi
  ·exact Nat.lt_of_lt_of_le (lt i (.inr (.inr (.inr hi)))) hle
 ·intro e he
  rcases List.mem_cons.1 he with rfl | he
  ·exact hok
  ·refine hp.ok e ?_
   rw [← hp.map]; simp only [List.map_cons,List.mem_cons]; exact .inr he
 ·intro i hi
  rw [hF]
  simp only [List.flatMap_cons,List.mem_cons,List.mem_append] at hi ⊢
  rcases hi with rfl | rfl | hi | hi
  ·exact .inl (.inl rfl)
  ·exact .inl (.inr (.inl rfl))
  ·exact (hsub i hi).elim (fun h=>.inl (.inr (.inr (.inl h)))) .inr
  ·exact .inl (.inr (.inr (.inr hi)))
 ·intro i ty cs h1 h2 h3 _
  rw [hfr i h1 fun hc=>h2 (by rw [hF]; simp [hc])]; exact h3
theorem Stx.top {T:Nat→Nat} {z z':Bool} {L L':Heap} {nx nx':Nat} {F:List Nat} {p:Nat} {els:List El} {sid:Nat} {jk:List V} {h h':EH} {t:List EH} (hp:Stx T z L nx F p els sid jk (h::t))
 (hfr:∀ i,i<nx→i∉h.fp→L' i=L i) (hat:At T L' h') (hlive:z'=false→h'.live) (hid:h'.id=h.id) (hnd:h'.fp.Nodup) (hsub:∀ i,i∈h'.fp→i∈h.fp∨nx≤i) (hlt:∀ i,i∈h'.fp→i<nx') (hle:nx≤nx') (hok:h'.e.ok) :
 ∃ F',Stk T z' L' nx' F' p (h'.e::t.map EH.e)∧Stp L nx F L' nx' F':=by
 obtain ⟨F',h1,h2⟩:=hp.topx hfr hat hlive hid hnd hsub hlt hle hok
 exact ⟨F',⟨_,_,_,h1⟩,h2⟩
def V.keep:V→Bool
 | .ptr _ _ | .eptr _ _ _=>true
 | v=>v.imm
theorem bG1 {id:Nat} {es:List V} {x:V} (h:x.keep=true):x.fz id es=x:=by
 cases x <;> first | rfl | exact aKx _ _ _ h
theorem aL2 {z len id:Nat} {es:List V} {v:V} {o:Option Nat} (hv:v.imm=true) (ho:∀ i,o=some i→i≠id):(lvO z len v o).fz id es=lvO z len v o:=by
 cases o with
 | none=>exact aKx _ _ _ hv
 | some i=>simp [lvO,V.fz,ho i rfl]
theorem aSx {vv:V} {id:Nat} {es:List V} (l:List Arg):V.fzL id es (vasO vv l)=vasO (vv.fz id es) l:=by
 rcases List.eq_nil_or_concat l with rfl | ⟨i,a,rfl⟩
 ·rfl
 ·rw [List.concat_eq_append,aDx,aDx,aCf,List.map_append,← aCf,aDz _ _ _ (aC2 i)]
  simp [V.fz,V.fzL,aKx _ _ _ (show (ln 5 (vns a.nm)).imm=true by simp [aD2,aA5])]
theorem At.fz {T:Nat→Nat} {L:Heap} {h:EH} {id:Nat} {es:List V} (ha:At T L h) (hi:id∉h.fp):At T (aBp id es L) h:=by
 have ne:∀ i,i∈h.fp→i≠id:=fun i h1 e=>hi (e ▸ h1)
 have nl:∀ i,h.li=some i→i≠id:=fun i e=>ne i (by simp [EH.fp,e])
 have na:∀ i,h.ai=some i→i≠id:=fun i e=>ne i (by simp [EH.fp,e])
 have nv:∀ i,h.vi=some i→i≠id:=fun i e=>ne i (by simp [EH.fp,e])
 have i1:(ln 5 (vns h.e.list)).imm=true:=by simp [aD2,aA5]
 have i2:(ln 3 (vas h.e.args)).imm=true:=by simp [aD2,aC2]
 have i3:(ln 5 (vns (aCi h.e.args))).imm=true:=by simp [aD2,aA5]
 refine ⟨?_,fun i hh=>⟨?_,(ha.li i hh).2⟩,fun i hh=>⟨?_,(ha.ai i hh).2⟩,fun i hh=>⟨?_,(ha.vi i hh).2⟩⟩
 ·simp only [aBp,ne _ (show h.id∈h.fp by simp [EH.fp]),if_false,ha.box,Option.map_some,Blk.fz,EH.cells,V.fzL,V.fz,EH.lv,EH.av,aL2 i1 nl,aL2 i2 na]
 ·simp only [aBp,nl i hh,if_false,(ha.li i hh).1,Option.map_some,Blk.fz,aDz _ _ _ (aA5 _)]
 ·simp only [aBp,na i hh,if_false,(ha.ai i hh).1,Option.map_some,Blk.fz,aSx,EH.vv,aL2 i3 nv]
 ·simp only [aBp,nv i hh,if_false,(ha.vi i hh).1,Option.map_some,Blk.fz,aDz _ _ _ (aA5 _)]
theorem Stx.fz {T:Nat→Nat} {z:Bool} {L:Heap} {nx:Nat} {F:List Nat} {p:Nat} {els:List El} {sid:Nat} {jk:List V} {h h':EH} {t:List EH} {id:Nat} {es:List V} (hp:Stx T z L nx F p els sid jk (h::t))
 (hid:id∈h.fp) (hat:At T (aBp id es L) h') (heq:h'.e=h.e) (hid':h'.id=h.id) (hsub:h'.fp.Sublist h.fp) :
 ∃ F' jk',Stx T true (aBp id es L) nx F' p els sid jk' (h'::t)∧Stp L nx F (aBp id es L) nx F':=by
 have hF:=hp.foot
 have hn:=hp.nodup
 rw [hF] at hn
 have hn':=hn
 simp only [List.flatMap_cons,List.nodup_cons,List.mem_cons,List.mem_append,not_or,List.nodup_append] at hn
 obtain ⟨⟨n1,n2,n3⟩,⟨n4,n5⟩,n6,n7,n8⟩:=hn
 have np:p≠id:=fun e=>n2 (e ▸ hid)
 have ns:sid≠id:=fun e=>n4 (e ▸ hid)
 have hss:(p::sid::(h'::t).flatMap EH.fp).Sublist F:=by
  rw [hF]
  simp only [List.flatMap_cons]
  exact ((hsub.append (List.Sublist.refl _)).cons_cons sid).cons_cons p
 refine ⟨p::sid::(h'::t).flatMap EH.fp,V.fzL id es jk,⟨rfl,?_,?_,?_,?_,?_,?_,?_,?_⟩,⟨Nat.le_refl _,?_,?_⟩⟩
 ·rw [← hp.map]; simp [heq]
 ·simp only [aBp,np,if_false,hp.box,Option.map_some,Blk.fz,V.fzL,V.fz,ns,false_and,List.length_cons]
 ·simp only [aBp,ns,if_false,hp.stk,Option.map_some,Blk.fz]
  rw [aCf,List.map_append,← aCf,← aCf]
  have:V.fzL id es (List.map EH.pt (h::t).reverse)=List.map EH.pt (h'::t).reverse:=by
   rw [aCf,List.map_map]
   simp only [List.reverse_cons,List.map_append,List.map_cons,List.map_nil,EH.pt,hid',Function.comp,V.fz]
   rw [List.append_left_inj]
   exact List.map_congr_left fun x _=>rfl
  rw [this]
 ·intro x hx
  rcases List.mem_cons.1 hx with rfl | hx
  ·exact hat
  ·exact (hp.at_ x (List.mem_cons_of_mem _ hx)).fz fun hc=>n8 id hid id (List.mem_flatMap.2 ⟨x,hx,hc⟩) rfl
 ·intro x hx
  have hl:=hp.live
  cases z with
  | true=>exact hl x hx
  | false=>exact hl x (by simp only [Bool.false_eq_true,if_false]; exact List.mem_cons_of_mem _ hx)
 ·rw [hF] at hss; exact hss.nodup hn'
 ·intro i hi; exact hp.lt i (hss.subset hi)
 ·exact hp.ok
 ·intro i hi; exact .inl (hss.subset hi)
 ·intro i ty cs h1 h2 h3 h4
  have:i≠id:=fun e=>h2 (by rw [hF]; subst e; simp [hid])
  simp only [aBp,this,if_false,h3,Option.map_some,Blk.fz,aDz _ _ _ h4]
structure FzT (T:Nat→Nat) (s:St) (F:List Nat) (p:Nat) (els:List El) (sid:Nat) (t:List EH) (h:EH) (s':St) (F':List Nat) (h':EH):Prop where
 fz:FzS s s'
 nx:s'.nx=s.nx
 env:∀ i,(s.env i).keep=true→s'.env i=s.env i
 st:∃ jk',Stx T true s'.L s.nx F' p els sid jk' (h'::t)
 e:h'.e=h.e
 id:h'.id=h.id
 stp:Stp s.L s.nx F s'.L s.nx F'
theorem FzS.trans {a b c:St} (h:FzS a b) (k:FzS b c):FzS a c:=by
 induction h with
 | refl s=>exact k
 | step id ty sz es hL hi hs ih=>exact .step id ty sz es hL hi (ih k)
 | up id ty cs cs' hL hn hw hs ih=>exact .up id ty cs cs' hL hn hw (ih k)
theorem FzT.trans {T:Nat→Nat} {s s' s'':St} {F F' F'':List Nat} {p:Nat} {els:List El} {sid:Nat} {t:List EH} {h h' h'':EH} (a:FzT T s F p els sid t h s' F' h') (b:FzT T s' F' p els sid t h' s'' F'' h''):FzT T s F p els sid t h s'' F'' h'':=by
 refine ⟨a.fz.trans b.fz,b.nx.trans a.nx,fun i hi=>?_,by have:=b.st; rw [a.nx] at this; exact this,b.e.trans a.e,b.id.trans a.id,a.stp.trans (by have:=b.stp; rw [a.nx] at this; exact this)⟩
 have e1:=a.env i hi
 have e2:=b.env i (by rw [e1]; exact hi)
 rw [e2,e1]
theorem Stx.thaw {T:Nat→Nat} {z:Bool} {L:Heap} {nx:Nat} {F:List Nat} {p:Nat} {els:List El} {sid:Nat} {jk:List V} {hs:List EH} (h:Stx T z L nx F p els sid jk hs):Stx T true L nx F p els sid jk hs :=
 ⟨h.foot,h.map,h.box,h.stk,h.at_,fun x hx=>by
  have hl:=h.live
  cases z with
  | true=>exact hl x hx
  | false=>exact hl x (by simp only [Bool.false_eq_true,if_false]; exact List.mem_of_mem_tail (by simpa using hx)),h.nodup,h.lt,h.ok⟩
theorem frz1 {T:Nat→Nat} {z:Bool} {s:St} {F:List Nat} {p:Nat} {els:List El} {sid:Nat} {jk:List V} {h h':EH} {t:List EH} {id ty sz:Nat} {es:List V} (hp:Stx T z s.L s.nx F p els sid jk (h::t))
 (hL:s.L id=some (.vec ty sz es)) (hi:V.imms es=true) (hid:id∈h.fp) (hat:At T (aBp id es s.L) h') (heq:h'.e=h.e) (hid':h'.id=h.id) (hsub:h'.fp.Sublist h.fp):∃ s' F',FzT T s F p els sid t h s' F' h':=by
 obtain ⟨F',jk',h1,h2⟩:=hp.fz hid hat heq hid' hsub
 exact ⟨s.fz id es,F',.step id ty sz es hL hi (.refl _),rfl,fun i hi=>bG1 hi,⟨jk',h1⟩,heq,hid',h2⟩
theorem frz0 {T:Nat→Nat} {z:Bool} {s:St} {F:List Nat} {p:Nat} {els:List El} {sid:Nat} {jk:List V} {h:EH} {t:List EH} (hp:Stx T z s.L s.nx F p els sid jk (h::t)):FzT T s F p els sid t h s F h :=
 ⟨.refl _,rfl,fun _ _=>rfl,⟨jk,hp.thaw⟩,rfl,rfl,Stp.refl _ _ _⟩
theorem aYu {i z:Nat} {es:List V} (h:es≠[]):(V.own i z 0 es.length).fz i es=ln z es:=by simp [V.fz,bGx h]
theorem aB2 {α:Type} (o:Option α):o=none∨∃ i,o=some i:=by cases o with | none=>exact .inl rfl | some i=>exact .inr ⟨i,rfl⟩
theorem frzV {T:Nat→Nat} {z:Bool} {s:St} {F:List Nat} {p:Nat} {els:List El} {sid:Nat} {jk:List V} {h:EH} {t:List EH} (hp:Stx T z s.L s.nx F p els sid jk (h::t)):∃ s' F',FzT T s F p els sid t h s' F' { h with vi:=none }:=by
 have ha:=hp.at_ h (by simp)
 have hn:h.fp.Nodup:=by
  have:=hp.nodup
  rw [hp.foot] at this
  simp only [List.flatMap_cons,List.nodup_cons,List.nodup_append] at this
  exact this.2.2.1
 cases hv:h.vi with
 | none=>exact ⟨s,F,by have:=frz0 hp; rw [show ({ h with vi:=none }:EH)=h by cases h; simp_all]; exact this⟩
 | some i =>
   obtain ⟨v1,v2,v3⟩:=ha.vi i hv
   have hid:i∈h.fp:=by simp [EH.fp,hv]
   simp only [EH.fp,hv,Option.toList_some,List.nodup_cons,List.mem_append,List.mem_singleton,not_or,List.nodup_append,List.mem_cons,List.not_mem_nil,or_false] at hn
   obtain ⟨⟨⟨m1,m2⟩,m3⟩,_,_,m4⟩:=hn
   have e0:vns (aCi h.e.args)≠[]:=fun e=>v2 (by cases hl:aCi h.e.args with | nil=>rfl | cons x r=>rw [hl] at e; simp [vns] at e)
   have nl:∀ j,h.li=some j→j≠i:=fun j hj=>m4 j (.inl (by simp [hj])) i rfl
   have na:∀ j,h.ai=some j→j≠i:=fun j hj=>m4 j (.inr (by simp [hj])) i rfl
   have i1:(ln 5 (vns h.e.list)).imm=true:=by simp [aD2,aA5]
   have i2:(ln 3 (vas h.e.args)).imm=true:=by simp [aD2,aC2]
   refine frz1 hp v1 (aA5 _) hid ⟨?_,fun j hj=>⟨?_,(ha.li j hj).2⟩,fun j hj=>⟨?_,(ha.ai j hj).2⟩,fun j hj=>by simp at hj⟩ rfl rfl (by simp [EH.fp])
   ·have:=ha.box
    simp only [aBp,m3,if_false,ha.box,Option.map_some,Blk.fz,EH.cells,V.fzL,V.fz,EH.lv,EH.av,aL2 i1 nl,aL2 i2 na]
   ·simp only [aBp,nl j hj,if_false,(ha.li j hj).1,Option.map_some,Blk.fz,aDz _ _ _ (aA5 _)]
   ·simp only [aBp,na j hj,if_false,(ha.ai j hj).1,Option.map_some,Blk.fz,aSx,EH.vv,hv,lvO]
    have:=aYu (i:=i) (z:=5) e0
    rw [aAz] at this
    rw [this]
theorem frzT {T:Nat→Nat} {z:Bool} {s:St} {F:List Nat} {p:Nat} {els:List El} {sid:Nat} {jk:List V} {h:EH} {t:List EH} (hp:Stx T z s.L s.nx F p els sid jk (h::t)):∃ s' F',FzT T s F p els sid t h s' F' ⟨h.e,h.id,none,none,none⟩:=by
 obtain ⟨s1,F1,f1⟩:=frzV hp
 have step2:∃ s' F',FzT T s1 F1 p els sid t { h with vi:=none } s' F' { h with vi:=none,ai:=none }:=by
  obtain ⟨jk1,hp1⟩:=f1.st
  rw [← f1.nx] at hp1
  have ha:=hp1.at_ _ (by simp:({ h with vi:=none }:EH)∈_)
  rcases aB2 h.ai with hv | ⟨i,hv⟩
  ·exact ⟨s1,F1,by have:=frz0 hp1; rw [show ({ h with vi:=none,ai:=none }:EH)={ h with vi:=none } by cases h; simp_all]; exact this⟩
  ·skip
   obtain ⟨v1,v2⟩:=ha.ai i hv
   have hn:({ h with vi:=none }:EH).fp.Nodup:=by
    have:=hp1.nodup
    rw [hp1.foot] at this
    simp only [List.flatMap_cons,List.nodup_cons,List.nodup_append] at this
    exact this.2.2.1
   have hid:i∈({ h with vi:=none }:EH).fp:=by simp [EH.fp,hv]
   simp only [EH.fp,hv,Option.toList_some,Option.toList_none,List.append_nil,List.nodup_cons,List.mem_append,List.mem_singleton,not_or,List.nodup_append,List.mem_cons,List.not_mem_nil,or_false] at hn
   obtain ⟨⟨m1,m3⟩,_,_,m4⟩:=hn
   have ev:({ h with vi:=none }:EH).vv=ln 5 (vns (aCi h.e.args)):=rfl
   rw [ev,aG3] at v1
   have nl:∀ j,h.li=some j→j≠i:=fun j hj=>m4 j (by simp [hj]) i rfl
   have i1:(ln 5 (vns h.e.list)).imm=true:=by simp [aD2,aA5]
   have e0:vas h.e.args≠[]:=fun e=>v2 (by
    show h.e.args=[]
    cases hl:h.e.args with | nil=>rfl | cons x r=>rw [hl] at e; simp [vas] at e)
   refine frz1 hp1 v1 (aC2 _) hid ⟨?_,fun j hj=>⟨?_,(ha.li j hj).2⟩,fun j hj=>by simp at hj,fun j hj=>by simp at hj⟩ rfl rfl (by simp [EH.fp,hv])
   ·have hb:=ha.box
    have:=aYu (i:=i) (z:=3) e0
    rw [aBk] at this
    simp only [aBp,m3,if_false,hb,Option.map_some,Blk.fz,EH.cells,V.fzL,EH.lv,EH.av,aL2 i1 nl,hv]
    simp only [lvO,this,V.fz]
   ·simp only [aBp,nl j hj,if_false,(ha.li j hj).1,Option.map_some,Blk.fz,aDz _ _ _ (aA5 _)]
 obtain ⟨s2,F2,f2⟩:=step2
 have f12:=f1.trans f2
 have step3:∃ s' F',FzT T s2 F2 p els sid t { h with vi:=none,ai:=none } s' F' ⟨h.e,h.id,none,none,none⟩:=by
  obtain ⟨jk1,hp1⟩:=f2.st
  rw [← f2.nx] at hp1
  have ha:=hp1.at_ _ (by simp:({ h with vi:=none,ai:=none }:EH)∈_)
  rcases aB2 h.li with hv | ⟨i,hv⟩
  ·exact ⟨s2,F2,by have:=frz0 hp1; rw [show (⟨h.e,h.id,none,none,none⟩:EH)={ h with vi:=none,ai:=none } by cases h; simp_all]; exact this⟩
  ·skip
   obtain ⟨v1,v2⟩:=ha.li i hv
   have hn:({ h with vi:=none,ai:=none }:EH).fp.Nodup:=by
    have:=hp1.nodup
    rw [hp1.foot] at this
    simp only [List.flatMap_cons,List.nodup_cons,List.nodup_append] at this
    exact this.2.2.1
   have hid:i∈({ h with vi:=none,ai:=none }:EH).fp:=by simp [EH.fp,hv]
   simp only [EH.fp,hv,Option.toList_some,Option.toList_none,List.append_nil,List.nodup_cons,List.mem_singleton] at hn
   have m3:h.id≠i:=hn.1
   have e0:vns h.e.list≠[]:=fun e=>v2 (by
    show h.e.list=[]
    cases hl:h.e.list with | nil=>rfl | cons x r=>rw [hl] at e; simp [vns] at e)
   refine frz1 hp1 v1 (aA5 _) hid ⟨?_,fun j hj=>by simp at hj,fun j hj=>by simp at hj,fun j hj=>by simp at hj⟩ rfl rfl (by simp [EH.fp,hv])
   ·have hb:=ha.box
    have:=aYu (i:=i) (z:=5) e0
    rw [aAz] at this
    have i2:(ln 3 (vas h.e.args)).fz i (vns h.e.list)=ln 3 (vas h.e.args):=aKx _ _ _ (by simp [aD2,aC2])
    simp only [aBp,m3,if_false,hb,Option.map_some,Blk.fz,EH.cells,V.fzL,EH.lv,EH.av,hv]
    simp only [lvO,this,V.fz,i2]
 obtain ⟨s3,F3,f3⟩:=step3
 exact ⟨s3,F3,f12.trans f3⟩
end Go.Ab
namespace Go.Ab
variable {P:Program} {F T:Nat→Nat}
theorem aD3 {a b:List V} {x:V} {n:Nat} (h:n=a.length):(a++x::b).getD n .junk=x:=by
 subst h
 rw [List.getD_eq_getElem?_getD,List.getElem?_append_right (Nat.le_refl _)]; simp
theorem aKl {a b:List V} {x y:V} {n:Nat} (h:n=a.length):(a++x::b).set n y=a++y::b:=by
 subst h
 rw [List.set_append_right _ _ (Nat.le_refl _)]; simp
theorem Stx.rd {z:Bool} {L:Heap} {nx:Nat} {f:List Nat} {p:Nat} {els:List El} {sid:Nat} {jk:List V} {h:EH} {t:List EH} (hp:Stx T z L nx f p els sid jk (h::t)) :
 L p=some (.box (T 7) [.own sid 1 0 (t.length+1)])∧L sid=some (.vec (T 6) 1 (t.reverse.map EH.pt++V.ptr h.id 0::jk))∧p<nx∧sid<nx∧h.id<nx∧p≠sid∧p≠h.id∧sid≠h.id∧els=h.e::t.map EH.e:=by
 have hF:=hp.foot
 have hn:=hp.nodup
 rw [hF] at hn
 simp only [List.flatMap_cons,List.nodup_cons,List.mem_cons,List.mem_append,not_or,EH.fp] at hn
 have lt:=hp.lt
 rw [hF] at lt
 refine ⟨by have:=hp.box; simpa using this,by have:=hp.stk; simpa [EH.pt] using this,lt p (by simp),lt sid (by simp),lt h.id (by simp [EH.fp]),hn.1.1,?_,?_,by rw [← hp.map]; rfl⟩
 ·exact hn.1.2.1.1
 ·exact hn.2.1.1.1
theorem t59 (hf:Is59 P F T) {z:Bool} {L:Heap} {nx:Nat} {f:List Nat} {p:Nat} {els:List El} {sid:Nat} {jk:List V} {h:EH} {t:List EH} (hp:Stx T z L nx f p els sid jk (h::t)) (hlen:t.length<2^32) :
 ECall P (F 59) [.ptr p 0] L nx fun r L' nx'=>r=.ptr h.id 0∧L'=L∧nx≤nx':=by
 obtain ⟨h1,h2,h3,h4,h5,h6,h7,h8,_⟩:=hp.rd
 refine aB7 [] hf (by simp) ?_
 have e1:((t.length:Nat):Int)+1-1=(t.length:Nat):=by omega
 have e2:(List.map EH.pt t.reverse++V.ptr h.id 0::jk).getD t.length .junk=.ptr h.id 0:=aD3 (by simp)
 simp only [c59,push_cast,seval,-Nat.reducePow,h1,h2,e1,e2,aPw]
 exact ⟨by omega,by omega,by simp,by omega,by omega⟩
def EH.cur (h:EH):V:=match h.ai with
 | some i=>if h.e.kind=3 then .eptr i (h.e.args.length-1) 2 else .ptr h.id 3
 | none=>.ptr h.id 3
theorem t106 (hf:aHb P F T) {L:Heap} {nx:Nat} {h:EH} (ha:At T L h) (hl:h.live) (hlen:h.e.args.length<2^32) :
 ECall P (F 106) [.ptr h.id 0] L nx fun r L' nx'=>r=h.cur∧L'=L∧nx≤nx':=by
 refine aB7 [] hf (by simp) ?_
 have hb:=ha.box
 rcases aB2 h.ai with hv | ⟨i,hv⟩
 ·have h0:=hl.ai hv
  simp only [c106,push_cast,seval,-Nat.reducePow,hb,EH.cells,EH.av,EH.lv,hv,lvO,h0,vas,ln]
  refine aAd (fun hk=>?_) (fun hk=>?_)
  ·simp only [push_cast,seval,-Nat.reducePow]
   exact ⟨by omega,by simp [EH.cur,hv],by omega⟩
  ·simp only [push_cast,seval,-Nat.reducePow]
   exact ⟨by omega,by simp [EH.cur,hv],by omega⟩
 ·have hne:=(ha.ai i hv).2
  have hpos:0<h.e.args.length:=List.length_pos_iff.2 hne
  simp only [c106,push_cast,seval,-Nat.reducePow,hb,EH.cells,EH.av,EH.lv,hv,lvO]
  refine aAd (fun hk=>?_) (fun hk=>?_)
  ·have e1:((h.e.args.length:Nat):Int)-1=((h.e.args.length-1:Nat):Nat):=by omega
   have e3:(0:Int)<((h.e.args.length:Nat):Int):=by omega
   have hk':h.e.kind=3:=by omega
   simp only [push_cast,seval,-Nat.reducePow,e1,e3,hv,hb,EH.cells,EH.av,EH.lv,lvO]
   exact ⟨by omega,by omega,by omega,by simp [EH.cur,hv,hk'],by omega⟩
  ·have hk':h.e.kind≠3:=by omega
   simp only [push_cast,seval,-Nat.reducePow]
   exact ⟨by omega,by simp [EH.cur,hv,hk'],by omega⟩
def Did (T:Nat→Nat) (L:Heap) (nx:Nat) (f:List Nat) (p:Nat) (els:List El):V→Heap→Nat→Prop:=fun _ L' nx'=>∃ f',Stk T false L' nx' f' p els∧Stp L nx f L' nx' f'
theorem bB5 (l:List Node):addN (tx []) l=l:=rfl
theorem aWo (l:List Arg) {g:Arg→Arg} (h:∀ a,g a=a):aEl g l=l:=by
 rcases List.eq_nil_or_concat l with rfl | ⟨i,a,rfl⟩
 ·rfl
 ·rw [List.concat_eq_append,aBo,h]
theorem El.add_nil (e:El):e.add (tx [])=e:=by
 obtain ⟨k,t,c,l,a⟩:=e
 simp only [El.add,bB5]
 split
 ·simp only [El.mk.injEq,true_and]
  exact aWo a fun a=>by obtain ⟨b,n,v⟩:=a; rfl
 ·rfl
theorem aSs (els:List El):addS (tx []) els=els:=by cases els with | nil=>rfl | cons e r=>simp [addS,El.add_nil]
theorem aDg (els:List El):30*els.length≤pot els:=by
 induction els with
 | nil=>simp [pot]
 | cons e r ih=>simp [pot,El.pot]; omega
def El.isA (e:El):Prop:=e.kind=3∧e.args≠[]
instance (e:El):Decidable e.isA:=inferInstanceAs (Decidable (_∧_))
def El.cur (e:El):List Node:=if e.isA then aCi e.args else e.list
def El.setCur (ns:List Node) (e:El):El:=if e.isA then { e with args:=aEl (fun a=>a.setVal ns) e.args } else { e with list:=ns }
theorem El.add_cur (n:Node) (e:El):e.add n=e.setCur (addN n e.cur):=by
 by_cases h:e.isA
 ·have h':e.kind=3∧e.args≠[]:=h
  simp only [El.add,El.setCur,El.cur,if_pos h,if_pos h',El.mk.injEq,true_and]
  rcases List.eq_nil_or_concat e.args with h0 | ⟨i,a,h0⟩
  ·rw [h0]; rfl
  ·rw [h0,List.concat_eq_append,aBo,aBo,aAw]
 ·have h':¬ (e.kind=3∧e.args≠[]):=h
  simp only [El.add,El.setCur,El.cur,if_neg h,if_neg h']
structure Slot (T:Nat→Nat) (L:Heap) (nx:Nat) (f:List Nat) (p:Nat) (t:List El) (e:El) (cv:V) (b:Nat) (mk:V→Blk) (vi:Option Nat):Prop where
 blt:b<nx
 at_:L b=some (mk (lvO 5 e.cur.length .nils vi))
 nil:vi=none→e.cur=[]
 own:∀ i,vi=some i→L i=some (.vec (T 0) 5 (vns e.cur))∧e.cur≠[]∧i≠b∧i<nx
 tn:tns e.cur
 pot:aAq e.cur≤e.pot
 nchk:∀ (d:Option Nat) (s:St) (K:St→Prop),aE0 d cv s K=K (s.setO d cv)
 load:∀ (d:Option Nat) (s:St) (K:St→Prop) (w:V),w.cells=[w]→s.L b=some (mk w)→aFz d false 1 false cv s K=K (s.setO d w)
 store:∀ (s:St) (K:St→Prop) (v w:V),w.ncells=some 1→w.cells=[w]→v.cells=[v]→s.L b=some (mk v)→aC9 1 w cv s K=K (s.put b (mk w))
 idq:∀ n,idq false n cv=(b<n)
 fin:∀ (L':Heap) (nx':Nat) (ns:List Node) (j:Nat),(vi=some j∨nx≤j)→L' j=some (.vec (T 0) 5 (vns ns))→ns≠[]→tns ns→L' b=some (mk (.own j 5 0 ns.length))→(∀ i,i<nx→i≠b→vi≠some i→L' i=L i)→nx≤nx'→j<nx' →
  ∃ f',Stk T false L' nx' f' p (e.setCur ns::t)∧Stp L nx f L' nx' f'
theorem slot {L:Heap} {nx:Nat} {f:List Nat} {p:Nat} {els:List El} {sid:Nat} {jk:List V} {h:EH} {t:List EH} (hp:Stx T false L nx f p els sid jk (h::t)) :
 ∃ b mk vi,Slot T L nx f p (t.map EH.e) h.e h.cur b mk vi:=by
 have hat:=hp.at_ h (by simp)
 have hlv:h.live:=hp.live h (by simp)
 have hok:h.e.ok:=hp.ok _ (by rw [← hp.map]; simp)
 have hlt:∀ i,i∈h.fp→i<nx:=fun i hi=>hp.lt i (by rw [hp.foot]; simp [hi])
 have hn:h.fp.Nodup:=by
  have:=hp.nodup
  rw [hp.foot] at this
  simp only [List.flatMap_cons,List.nodup_cons,List.nodup_append] at this
  exact this.2.2.1
 simp only [EH.fp,List.nodup_cons,List.mem_append,not_or,List.nodup_append] at hn
 obtain ⟨⟨⟨m1,m2⟩,m3⟩,⟨m4,m5,m6⟩,m7,m8⟩:=hn
 have nel:∀ i,h.li=some i→i≠h.id:=fun i hi e=>m1 (by simp [hi,e])
 have nea:∀ i,h.ai=some i→i≠h.id:=fun i hi e=>m2 (by simp [hi,e])
 have nev:∀ i,h.vi=some i→i≠h.id:=fun i hi e=>m3 (by simp [hi,e])
 have nla:∀ i j,h.li=some i→h.ai=some j→i≠j:=fun i j hi hj=>m6 i (by simp [hi]) j (by simp [hj])
 have nlv:∀ i j,h.li=some i→h.vi=some j→i≠j:=fun i j hi hj=>m8 i (.inl (by simp [hi])) j (by simp [hj])
 have nav:∀ i j,h.ai=some i→h.vi=some j→i≠j:=fun i j hi hj=>m8 i (.inr (by simp [hi])) j (by simp [hj])
 have tli:∀ i,h.li=some i→i<nx:=fun i hi=>hlt i (by simp [EH.fp,hi])
 have tai:∀ i,h.ai=some i→i<nx:=fun i hi=>hlt i (by simp [EH.fp,hi])
 have tvi:∀ i,h.vi=some i→i<nx:=fun i hi=>hlt i (by simp [EH.fp,hi])
 have tid:h.id<nx:=hlt _ (by simp [EH.fp])
 by_cases hA:h.e.isA
 ·obtain ⟨hk,hne⟩:=hA
  obtain ⟨ia,hv⟩:∃ i,h.ai=some i:=(aB2 h.ai).elim (fun e=>absurd (hlv.ai e) hne) id
  obtain ⟨i,a,ha⟩:∃ i a,h.e.args=i++[a]:=by
   rcases List.eq_nil_or_concat h.e.args with h0 | ⟨i,a,h0⟩
   ·exact absurd h0 hne
   ·exact ⟨i,a,by rw [h0,List.concat_eq_append]⟩
  have hA:h.e.isA:=⟨hk,hne⟩
  have ecur:h.e.cur=a.val:=by simp only [El.cur,hA,if_true,ha,aAw]
  have eset:∀ ns,h.e.setCur ns={ h.e with args:=i++[a.setVal ns] }:=fun ns=>by simp only [El.setCur,hA,if_true,ha,aBo]
  have ecv:h.cur=.eptr ia i.length 2:=by simp [EH.cur,hv,hk,ha]
  have hain:=hat.ai ia hv
  have evv:h.vv=lvO 5 a.val.length .nils h.vi:=by
   simp only [EH.vv,ha,aAw]
   rcases aB2 h.vi with e | ⟨j,e⟩
   ·have:=hlv.vi e; rw [ha,aAw] at this; simp [e,lvO,this,vns,ln]
   ·simp [e,lvO]
  rw [ha,aDx] at hain
  have hokA:=hok.args a (by rw [ha]; simp)
  refine ⟨ia,fun w=>.vec (T 1) 3 (vas i++[.agg [.bool a.named,ln 5 (vns a.nm),w]]),h.vi,⟨tai ia hv,?_,?_,?_,?_,?_,?_,?_,?_,?_,?_⟩⟩
  ·rw [ecur,← evv]; exact hain.1
  ·intro e; rw [ecur]; have:=hlv.vi e; rwa [ha,aAw] at this
  ·intro j hj
   obtain ⟨q1,q2,_⟩:=hat.vi j hj
   rw [ha,aAw] at q1 q2
   rw [ecur]
   exact ⟨q1,q2,fun e=>nav ia j hv hj e.symm,tvi j hj⟩
  ·rw [ecur]; exact hokA.2
  ·rw [ecur]; simp only [El.pot,ha,aBw]
   obtain ⟨b,n,v⟩:=a
   simp only [aBb,Arg.bulk,Arg.val]; omega
  ·intro d s K; rw [ecv]; simp only [push_cast,seval,-Nat.reducePow]
  ·intro d s K w hw hs
   rw [ecv]
   have e2:(vas i++V.agg [.bool a.named,ln 5 (vns a.nm),w]::[]).getD i.length .junk=V.agg [.bool a.named,ln 5 (vns a.nm),w]:=aD3 (by simp [aBk])
   have e3:i.length<(vas i++[V.agg [.bool a.named,ln 5 (vns a.nm),w]]).length:=by simp [aBk]
   simp only [push_cast,seval,-Nat.reducePow,hs,e2,e3]
  ·intro s K v w h1 h2 h2' h3
   rw [ecv]
   have e2:(vas i++V.agg [.bool a.named,ln 5 (vns a.nm),v]::[]).getD i.length .junk=V.agg [.bool a.named,ln 5 (vns a.nm),v]:=aD3 (by simp [aBk])
   have e3:i.length<(vas i++[V.agg [.bool a.named,ln 5 (vns a.nm),v]]).length:=by simp [aBk]
   have e4:∀ y,(vas i++V.agg [.bool a.named,ln 5 (vns a.nm),v]::[]).set i.length y=vas i++y::[]:=fun y=>aKl (by simp [aBk])
   simp only [push_cast,seval,-Nat.reducePow,h3,e2,e3,h1,h2,e4,aLn]
  ·intro n; rw [ecv]; simp only [push_cast,seval,-Nat.reducePow]
  ·intro L' nx' ns j hj h1 h2 h3 h4 h5 h6 h7
   rw [eset]
   have hj':∀ x,x<nx→h.vi≠some x→j≠x:=fun x hx hn e=>hj.elim (fun k=>hn (e ▸ k)) fun k=>by omega
   refine hp.top (h':=⟨{ h.e with args:=i++[a.setVal ns] },h.id,h.li,some ia,some j⟩) (fun x hx hn=>h5 x hx (fun e=>hn (by simp [EH.fp,hv,e])) fun e=>hn (by simp [EH.fp,e])) ⟨?_,?_,?_,?_⟩ (fun _=>⟨hlv.li,fun e=>by simp at e,fun e=>by simp at e⟩) rfl ?_ ?_ ?_ h6 ?_
   ·rw [h5 _ tid (fun e=>nea ia hv e.symm) fun e=>nev _ e rfl,hat.box]
    simp [EH.cells,EH.lv,EH.av,hv,lvO,ha]
   ·intro x hx
    rw [h5 x (tli x hx) (nla x ia hx hv) fun e=>nlv x x hx e rfl]
    exact hat.li x hx
   ·intro x hx
    simp only [Option.some.injEq] at hx
    subst hx
    refine ⟨?_,by simp⟩
    rw [h4,aDx]
    simp only [EH.vv,aAw,lvO]
    obtain ⟨b,n,v⟩:=a
    rfl
   ·intro x hx
    simp only [Option.some.injEq] at hx
    subst hx
    obtain ⟨b,n,v⟩:=a
    simp only [aAw,Arg.setVal,Arg.val]
    exact ⟨h1,h2,by simp⟩
   ·simp only [EH.fp,List.nodup_cons,List.mem_append,not_or,List.nodup_append,Option.toList_some,List.mem_singleton,List.not_mem_nil,not_false_eq_true,List.nodup_nil,and_true,true_and]
    refine ⟨⟨⟨m1,fun e=>nea ia hv e.symm⟩,fun e=>?_⟩,⟨m4,?_⟩,?_⟩
    ·exact hj' h.id tid (fun e=>nev _ e rfl) e.symm
    ·intro x hx b hb
     subst hb
     have:h.li=some x:=by simpa using hx
     exact nla x b this hv
    ·intro x hx b hb
     subst hb
     rcases hx with hx | rfl
     ·have hx:h.li=some x:=by simpa using hx
      exact fun e=>hj' x (tli x hx) (fun e=>nlv x x hx e rfl) e.symm
     ·exact fun e=>hj' x (tai x hv) (fun e=>nav x x hv e rfl) e.symm
   ·intro x hx
    simp only [EH.fp,List.mem_cons,List.mem_append,Option.toList_some,List.not_mem_nil,or_false] at hx
    rcases hx with rfl | ((hx | rfl) | rfl)
    ·exact .inl (by simp [EH.fp])
    ·exact .inl (by simp [EH.fp,hx])
    ·exact .inl (by simp [EH.fp,hv])
    ·exact hj.elim (fun e=>.inl (by simp [EH.fp,e])) .inr
   ·intro x hx
    simp only [EH.fp,List.mem_cons,List.mem_append,Option.toList_some,List.not_mem_nil,or_false] at hx
    rcases hx with rfl | ((hx | rfl) | rfl)
    ·omega
    ·have:=tli x (by simpa using hx); omega
    ·have:=tai x hv; omega
    ·exact h7
   ·refine ⟨hok.tag,hok.list,fun b hb=>?_⟩
    rcases List.mem_append.1 hb with hb | hb
    ·exact hok.args b (by rw [ha]; exact List.mem_append_left _ hb)
    ·simp only [List.mem_singleton] at hb
     subst hb
     obtain ⟨b,n,v⟩:=a
     exact ⟨hokA.1,h3⟩
 ·have ecur:h.e.cur=h.e.list:=by simp only [El.cur,hA,if_false]
  have eset:∀ ns,h.e.setCur ns={ h.e with list:=ns }:=fun ns=>by simp only [El.setCur,hA,if_false]
  have ecv:h.cur=.ptr h.id 3:=by
   simp only [EH.cur]
   rcases aB2 h.ai with e | ⟨j,e⟩
   ·simp [e]
   ·simp only [e]
    rw [if_neg fun hk=>hA ⟨hk,(hat.ai j e).2⟩]
  have elv:h.lv=lvO 5 h.e.list.length .nils h.li:=by
   simp only [EH.lv]
   rcases aB2 h.li with e | ⟨j,e⟩
   ·have:=hlv.li e; simp [e,lvO,this,vns,ln]
   ·simp [e,lvO]
  refine ⟨h.id,fun w=>.box (T 5) [.int .i64 h.e.kind,.int .i64 h.e.tag,.int .i64 h.e.count,w,h.av],h.li,⟨tid,?_,?_,?_,?_,?_,?_,?_,?_,?_,?_⟩⟩
  ·rw [ecur,← elv]; exact hat.box
  ·intro e; rw [ecur]; exact hlv.li e
  ·intro j hj
   obtain ⟨q1,q2⟩:=hat.li j hj
   rw [ecur]
   exact ⟨q1,q2,nel j hj,tli j hj⟩
  ·rw [ecur]; exact hok.list
  ·rw [ecur]; simp only [El.pot]; omega
  ·intro d s K; rw [ecv]; simp only [push_cast,seval,-Nat.reducePow]
  ·intro d s K w hw hs; rw [ecv]; simp only [push_cast,seval,-Nat.reducePow,hs]
  ·intro s K v w h1 h2 h2' h3
   rw [ecv]
   simp only [push_cast,seval,-Nat.reducePow,h3,h1,h2]
  ·intro n; rw [ecv]; simp only [push_cast,seval,-Nat.reducePow]
  ·intro L' nx' ns j hj h1 h2 h3 h4 h5 h6 h7
   rw [eset]
   have hj':∀ x,x<nx→h.li≠some x→j≠x:=fun x hx hn e=>hj.elim (fun k=>hn (e ▸ k)) fun k=>by omega
   refine hp.top (h':=⟨{ h.e with list:=ns },h.id,some j,h.ai,h.vi⟩) (fun x hx hn=>h5 x hx (fun e=>hn (by simp [EH.fp,e])) fun e=>hn (by simp [EH.fp,e])) ⟨?_,?_,?_,?_⟩ (fun _=>⟨fun e=>by simp at e,hlv.ai,hlv.vi⟩) rfl ?_ ?_ ?_ h6 ?_
   ·rw [h4]
    simp [EH.cells,EH.lv,EH.av,lvO]
   ·intro x hx
    simp only [Option.some.injEq] at hx
    subst hx
    exact ⟨h1,h2⟩
   ·intro x hx
    rw [h5 x (tai x hx) (nea x hx) fun e=>nla x x e hx rfl]
    exact hat.ai x hx
   ·intro x hx
    rw [h5 x (tvi x hx) (nev x hx) fun e=>nlv x x e hx rfl]
    exact hat.vi x hx
   ·simp only [EH.fp,List.nodup_cons,List.mem_append,not_or,List.nodup_append,Option.toList_some,List.mem_singleton,List.not_mem_nil,not_false_eq_true,List.nodup_nil,and_true,true_and]
    refine ⟨⟨⟨fun e=>?_,m2⟩,m3⟩,⟨m5,?_⟩,m7,?_⟩
    ·exact hj' h.id tid (fun e=>nel _ e rfl) e.symm
    ·intro x hx b hb
     subst hx
     have hb:h.ai=some b:=by simpa using hb
     exact hj' b (tai b hb) fun e=>nla b b e hb rfl
    ·intro x hx b hb
     have hb:h.vi=some b:=by simpa using hb
     rcases hx with rfl | hx
     ·exact hj' b (tvi b hb) fun e=>nlv b b e hb rfl
     ·have hx:h.ai=some x:=by simpa using hx
      exact nav x b hx hb
   ·intro x hx
    simp only [EH.fp,List.mem_cons,List.mem_append,Option.toList_some,List.not_mem_nil,or_false] at hx
    rcases hx with rfl | ((rfl | hx) | hx)
    ·exact .inl (by simp [EH.fp])
    ·exact hj.elim (fun e=>.inl (by simp [EH.fp,e])) .inr
    ·exact .inl (by simp [EH.fp,hx])
    ·exact .inl (by simp [EH.fp,hx])
   ·intro x hx
    simp only [EH.fp,List.mem_cons,List.mem_append,Option.toList_some,List.not_mem_nil,or_false] at hx
    rcases hx with rfl | ((rfl | hx) | hx)
    ·omega
    ·exact h7
    ·have:=tai x (by simpa using hx); omega
    ·have:=tvi x (by simpa using hx); omega
   ·exact ⟨hok.tag,h3,hok.args⟩
theorem Did.of {L0 L L':Heap} {nx0 nx nx':Nat} {f:List Nat} {p:Nat} {els:List El} {r:V} (h:Stp L0 nx0 f L nx f) (k:∃ f',Stk T false L' nx' f' p els∧Stp L nx f L' nx' f'):Did T L0 nx0 f p els r L' nx':=by
 obtain ⟨f',k1,k2⟩:=k
 exact ⟨f',k1,h.trans k2⟩
theorem bCd {s:List UInt8} (h:s≠[]):addN (tx s) []=[tx s]:=by simp [addN,tx,Node.kind,Node.text,h,aCj]
theorem bDd {s:List UInt8} {i:List Node} {x:Node} (h:s≠[]) (hx:x.kind≠1):addN (tx s) (i++[x])=i++[x]++[tx s]:=by
 obtain ⟨k,t,q,ks,as⟩:=x
 have hx':¬ (k=1):=hx
 simp [addN,tx,Node.kind,Node.text,h,aCj,hx']
theorem bC2 {s:List UInt8} {i:List Node} {t:Int} {q:List UInt8} {ks:List Node} {as:List Arg} (h:s≠[]):addN (tx s) (i++[.mk 1 t q ks as])=i++[tx (q++s)]:=by
 simp [addN,tx,Node.kind,Node.text,h,aCj]
theorem aBe {f:Heap} {i:Nat} {b:Option Blk} {j:Nat}:(upd f i b) j=if j=i then b else f j:=rfl
theorem t69 (hf:Is69 P F T) (h59:Is59 P F T) (h106:aHb P F T) {L:Heap} {nx:Nat} {f:List Nat} {p:Nat} {els:List El} (hs:Stk T false L nx f p els) (s:List UInt8) (hb:pot els+s.length+1≤2^30) (hne:els≠[]) :
 ECall P (F 69) [.ptr p 0,.str s] L nx (Did T L nx f p (addS (tx s) els)):=by
 obtain ⟨sid,jk,hs,hp⟩:=hs
 obtain ⟨h,t,rfl⟩:∃ h t,hs=h::t:=by
  cases hs with
  | nil=>exact absurd hp.map.symm hne
  | cons h t=>exact ⟨h,t,rfl⟩
 have hlen:=aDg els
 obtain ⟨r1,r2,r3,r4,r5,r6,r7,r8,r9⟩:=hp.rd
 refine aB7 [] hf (by simp) ?_
 simp only [c69,push_cast,seval,-Nat.reducePow]
 refine aAd (fun h0=>?_) (fun h0=>?_)
 ·subst h0
  simp only [push_cast,seval,-Nat.reducePow]
  exact ⟨by omega,f,by rw [aSs]; exact (Stk.grow ⟨_,_,_,hp⟩ (by omega) fun _ _=>rfl),Stp.grow (by omega) fun _ _=>rfl⟩
 ·have hl1:t.length<2^32:=by
   have:els.length=t.length+1:=by rw [r9]; simp
   omega
  have hat:=hp.at_ h (by simp)
  have hlv:h.live:=hp.live h (by simp)
  have hpe:h.e.pot≤pot els:=by rw [r9]; simp [pot]
  have hpe':=hpe
  simp only [El.pot] at hpe
  simp only [push_cast,seval,-Nat.reducePow]
  refine aAa (t59 h59 (hp.grow (by omega)) hl1) ?_
  rintro _ _ n1 ⟨rfl,rfl,hn1⟩
  try simp only [push_cast,seval,-Nat.reducePow]
  refine aAa (t106 h106 hat hlv (by omega)) ?_
  rintro _ L n2 ⟨rfl,rfl,hn2⟩
  obtain ⟨b,mk,vi,hsl⟩:=slot (nx:=n2) (hp.grow (by omega))
  have hst:Stp L nx f L n2 f:=Stp.grow (by omega) fun _ _=>rfl
  have hnk:=hsl.nchk
  have hq:=hsl.idq
  have hat2:=hsl.at_
  have hblt:=hsl.blt
  have hcl:=aDq h.e.cur
  have hcp:=hsl.pot
  generalize hcv:h.cur=cv at *
  have eadd:addS (tx s) els=h.e.setCur (addN (tx s) h.e.cur)::t.map EH.e:=by rw [r9]; simp only [addS,El.add_cur]
  rw [eadd]
  rcases aB2 vi with hv | ⟨i,hv⟩
  ·have h00:=hsl.nil hv
   rw [h00] at hat2
   simp only [hv,lvO] at hat2
   have hld:=fun d s K=>hsl.load d s K .nils rfl
   have hsr:∀ (s:St) (K:St→Prop) (j n:Nat),s.L b=some (mk .nils)→aC9 1 (.own j 5 0 n) cv s K=K (s.put b (mk (.own j 5 0 n))):=fun s K j n e=>hsl.store s K .nils _ rfl rfl rfl e
   simp only [push_cast,seval,-Nat.reducePow,hnk,hld,hat2]
   refine aKq ?_
   have nb:b≠n2+197:=by omega
   have nb':n2+197≠b:=by omega
   have hub:∀ (x:Option Blk) (M:Heap),upd M (n2+197) x b=M b:=fun x M=>aAi _ _ _ _ nb
   simp only [push_cast,seval,-Nat.reducePow,hnk,hld,hat2,hq,hsr,nb,nb',hub,List.set_cons_zero]
   refine ⟨by omega,by omega,by omega,by omega,?_⟩
   rw [h00,bCd h0]
   exact Did.of hst (hsl.fin _ _ [tx s] (n2+197) (.inr (by omega)) (by simp only [aBe,nb',if_false,if_true]; rfl) (by simp) (by intro n hn; simp at hn; subst hn; simp [tx,Node.tn]) (by simp only [aBe,if_true]; rfl) (fun i hi h1 h2=>by simp only [aBe,h1,show i≠n2+197 by omega,if_false]) (by omega) (by omega))
  ·obtain ⟨q1,q2,q3,q4⟩:=hsl.own i hv
   obtain ⟨xs,x,hx⟩:∃ xs x,h.e.cur=xs++[x]:=by
    rcases List.eq_nil_or_concat h.e.cur with h0 | ⟨i,a,h0⟩
    ·exact absurd h0 q2
    ·exact ⟨i,a,by rw [h0,List.concat_eq_append]⟩
   have htn:=hsl.tn
   rw [hx] at hat2 q1 hcl htn ⊢
   simp only [hv,lvO] at hat2
   have hld:=fun d s K=>hsl.load d s K (.own i 5 0 (xs++[x]).length) rfl
   have hsr:∀ (s:St) (K:St→Prop) (j n:Nat),s.L b=some (mk (.own i 5 0 (xs++[x]).length))→aC9 1 (.own j 5 0 n) cv s K=K (s.put b (mk (.own j 5 0 n))):=fun s K j n e=>hsl.store s K _ _ rfl rfl rfl e
   have el:(xs++[x]).length=xs.length+1:=by simp
   rw [el] at hat2 hcl
   simp only [el] at hld hsr
   obtain ⟨k,xt,q,ks,as⟩:=x
   generalize hX:V.agg [.int .i64 k,.int .i64 xt,.str q,ln 5 (vns ks),ln 3 (vas as)]=X at *
   have hXc:X.cells=[.int .i64 k,.int .i64 xt,.str q,ln 5 (vns ks),ln 3 (vas as)]:=by rw [← hX]; rfl
   have hXr:∀ cs,X.recell cs=.agg cs:=fun cs=>by rw [← hX]; rfl
   have evx:vns (xs++[.mk k xt q ks as])=vns xs++X::[]:=by rw [aFa,← hX]; rfl
   rw [evx] at q1
   have e1:((xs.length:Nat):Int)+1-1=(xs.length:Nat):=by omega
   have e2:(vns xs++X::[]).getD xs.length .junk=X:=aD3 (by simp [aAz])
   have e3:xs.length<(vns xs++[X]).length:=by simp [aAz]
   have e4:(0:Int)<((xs.length:Nat):Int)+1:=by omega
   have e5:∀ y,(vns xs++X::[]).set xs.length y=vns xs++y::[]:=fun y=>aKl (by simp [aAz])
   have hbi:b≠i:=Ne.symm q3
   have hlq:q.length≤2^30:=by
    have:=hsl.pot
    rw [hx,aAs] at this
    simp only [aAq,Node.bulk] at this
    omega
   have hxl:xs.length+1≤2^30:=by
    have h1:=hsl.pot
    have h2:=aDq h.e.cur
    have h3:h.e.cur.length=xs.length+1:=by rw [hx]; simp
    omega
   simp only [push_cast,seval,-Nat.reducePow,hnk,hld,hat2,q1,e1,e2,e3,e4,hXc]
   refine ⟨by omega,by omega,?_⟩
   refine aAd (fun hk=>?_) (fun hk=>?_)
   ·subst hk
    simp only [push_cast,seval,-Nat.reducePow,hnk,hld,hat2,q1,e1,e2,e3,e4,e5,hXc,hXr]
    refine ⟨by omega,by omega,by omega,by omega,by omega,?_⟩
    have ht:=htn (.mk 1 xt q ks as) (by simp) rfl
    obtain ⟨rfl,rfl,rfl⟩:=ht
    rw [bC2 h0]
    have key:vns (xs++[tx (q++s)])=vns xs++[V.agg [.int .i64 1,.int .i64 0,.str (q++s),ln 5 (vns []),ln 3 (vas [])]]:=by rw [aFa]; rfl
    refine Did.of hst (hsl.fin _ _ (xs++[tx (q++s)]) i (.inl hv) (by simp only [aBe,if_true,key]) (by simp) ?_ ?_ (fun x hx h1 h2=>?_) (by omega) (by omega))
    ·intro n hn
     rcases List.mem_append.1 hn with hn | hn
     ·exact htn n (List.mem_append_left _ hn)
     ·simp at hn; subst hn; simp [tx,Node.tn]
    ·simp only [aBe,hbi,if_false,hat2]
     simp
    ·have:x≠i:=fun e=>h2 (by rw [hv,e])
     simp only [aBe,this,if_false]
   ·have nb:b≠n2+197:=by omega
    have nb':n2+197≠b:=by omega
    have hub:∀ (x:Option Blk) (M:Heap),upd M (n2+197) x b=M b:=fun x M=>aAi _ _ _ _ nb
    have hub2:∀ (x:Option Blk) (M:Heap),upd M i x b=M b:=fun x M=>aAi _ _ _ _ hbi
    have e6:List.take (xs.length+1) (vns xs++[X])=vns xs++[X]:=List.take_of_length_le (by simp [aAz])
    have e7:(((xs.length:Nat):Int)+1).toNat=xs.length+1:=by omega
    have e8:∀ Z,(vns xs++[X]++Z::[]).getD (xs.length+1) .junk=Z:=fun Z=>aD3 (by simp [aAz])
    have e9:∀ Z y,(vns xs++[X]++Z::[]).set (xs.length+1) y=vns xs++[X]++y::[]:=fun Z y=>aKl (by simp [aAz])
    simp only [push_cast,seval,-Nat.reducePow,hnk,hld,hat2,q1,e1,e2,e3,e4,e5,hXc,hXr,hub,hub2,hsr,hq,e6,e7,e8,e9]
    refine ⟨by simp [aAz],by omega,by omega,by omega,by omega,by simp [aAz],by omega,by omega,?_⟩
    have hX':Node.kind (.mk k xt q ks as)≠1:=hk
    rw [bDd h0 hX']
    have key:vns (xs++[.mk k xt q ks as]++[tx s])=vns xs++[X]++[V.agg [.int .i64 1,.int .i64 0,.str s,.nils,.nils]]:=by rw [aFa,evx]; rfl
    refine Did.of hst (hsl.fin _ _ (xs++[.mk k xt q ks as]++[tx s]) (n2+197) (.inr (by omega)) (by simp only [aBe,nb',if_false,if_true,key]) (by simp) ?_ (by simp only [aBe,if_true]; simp) (fun x hx h1 h2=>?_) (by omega) (by omega))
    ·intro n hn
     rcases List.mem_append.1 hn with hn | hn
     ·exact htn n hn
     ·simp at hn; subst hn; simp [tx,Node.tn]
    ·have:x≠i:=fun e=>h2 (by rw [hv,e])
     simp only [aBe,this,h1,show x≠n2+197 by omega,if_false]
theorem bFz {n:Node} {l:List Node} (h:n.kind≠1):addN n l=l++[n]:=by simp [addN,h]
theorem t70 (hf:Is70 P F T) (h59:Is59 P F T) (h106:aHb P F T) {L:Heap} {nx:Nat} {f:List Nat} {p:Nat} {els:List El} (hs:Stk T false L nx f p els) (n:Node) (hk:n.kind≠1) (hb:pot els≤2^30) (hne:els≠[]) :
 ECall P (F 70) [.ptr p 0,.agg n.vs] L nx (Did T L nx f p (addS n els)):=by
 obtain ⟨sid,jk,hs,hp⟩:=hs
 obtain ⟨h,t,rfl⟩:∃ h t,hs=h::t:=by
  cases hs with
  | nil=>exact absurd hp.map.symm hne
  | cons h t=>exact ⟨h,t,rfl⟩
 have hlen:=aDg els
 obtain ⟨r1,r2,r3,r4,r5,r6,r7,r8,r9⟩:=hp.rd
 refine aB7 [] hf (by simp) ?_
 have hl1:t.length<2^32:=by
  have:els.length=t.length+1:=by rw [r9]; simp
  omega
 have hat:=hp.at_ h (by simp)
 have hlv:h.live:=hp.live h (by simp)
 have hpe:h.e.pot≤pot els:=by rw [r9]; simp [pot]
 have hpe':=hpe
 simp only [El.pot] at hpe
 obtain ⟨Y,hY⟩:∃ Y,V.agg n.vs=Y:=⟨_,rfl⟩
 obtain ⟨c0,c1,c2,c3,c4,hc⟩:∃ c0 c1 c2 c3 c4,n.vs=[c0,c1,c2,c3,c4]:=by obtain ⟨k,xt,q,ks,as⟩:=n; exact ⟨_,_,_,_,_,rfl⟩
 have hco:([c0,c1,c2,c3,c4]:List V).all V.one=true:=by
  rw [← hc]; obtain ⟨k,xt,q,ks,as⟩:=n; simp only [Node.vs,List.all_cons,aW5,aXe,bE6,List.all_nil,Bool.and_self]
 have hci:V.imms [c0,c1,c2,c3,c4]=true:=by rw [← hc]; exact aMg n
 have hk4:(4:Nat)<5:=by omega
 simp only [List.all_cons,List.all_nil,Bool.and_true,Bool.and_eq_true] at hco
 obtain ⟨o0,o1,o2,o3,o4⟩:=hco
 rw [hc]
 have st0:∀ (M:Heap) (m:Nat),nx≤m→(∀ i,i<nx→M i=L i)→Stx T false M m f p els sid jk (h::t):=fun M m hm hM=>by
  have e:∀ i,i∈f→M i=L i:=fun i hi=>hM i (hp.lt i hi)
  refine ⟨hp.foot,hp.map,?_,?_,fun x hx=>(hp.at_ x hx).frame fun i hi=>e i ?_,hp.live,hp.nodup,fun i hi=>Nat.lt_of_lt_of_le (hp.lt i hi) hm,hp.ok⟩
  ·rw [e p (by rw [hp.foot]; simp)]; exact hp.box
  ·rw [e sid (by rw [hp.foot]; simp)]; exact hp.stk
  ·rw [hp.foot]; exact List.mem_cons_of_mem _ (List.mem_cons_of_mem _ (List.mem_flatMap.2 ⟨x,hx,hi⟩))
 simp only [c70,push_cast,seval,-Nat.reducePow,o0,o1,o2,o3,o4,hci]
 generalize hM:upd (upd L (nx+3) (some (Blk.box (T 0) [c0,c1,c2,c3,c4]))) (nx+3) none=M
 have hMi:∀ i,i<nx→M i=L i:=fun i hi=>by rw [← hM]; simp only [aBe,show i≠nx+3 by omega,if_false]
 refine aAa (t59 h59 (st0 M _ (by omega) hMi) hl1) ?_
 rintro _ _ n1 ⟨rfl,rfl,hn1⟩
 try simp only [push_cast,seval,-Nat.reducePow,o0,o1,o2,o3,o4,hci]
 rename_i M
 have hpM:=st0 M nx (by omega) hMi
 refine aAa (t106 h106 (hpM.at_ h (by simp)) hlv (by omega)) ?_
 rintro _ _ n2 ⟨rfl,rfl,hn2⟩
 rename_i M
 obtain ⟨b,mk,vi,hsl⟩:=slot (nx:=n2) (hpM.grow (by omega))
 have hst:Stp L nx f M n2 f:=Stp.grow (by omega) hMi
 have hnk:=hsl.nchk
 have hq:=hsl.idq
 have hat2:=hsl.at_
 have hblt:=hsl.blt
 have hcl:=aDq h.e.cur
 have hcp:=hsl.pot
 generalize hcv:h.cur=cv at *
 have eadd:addS n els=h.e.setCur (h.e.cur++[n])::t.map EH.e:=by rw [r9]; simp only [addS,El.add_cur,bFz hk]
 have htk:n.tn:=by obtain ⟨k,xt,q,ks,as⟩:=n; exact fun e=>absurd e hk
 rw [eadd]
 have nb:b≠n2+31:=by omega
 have nb':n2+31≠b:=by omega
 have hub:∀ (x:Option Blk) (M:Heap),upd M (n2+31) x b=M b:=fun x M=>aAi _ _ _ _ nb
 have htn:=hsl.tn
 have htn':tns (h.e.cur++[n]):=fun m hm=>by
  rcases List.mem_append.1 hm with hm | hm
  ·exact htn m hm
  ·simp at hm; subst hm; exact htk
 have key:vns (h.e.cur++[n])=vns h.e.cur++[V.agg [c0,c1,c2,c3,c4]]:=by rw [aFa,← hc]; rfl
 rcases aB2 vi with hv | ⟨i,hv⟩
 ·have h00:=hsl.nil hv
  rw [h00] at hat2
  simp only [hv,lvO] at hat2
  have hld:=fun d s K=>hsl.load d s K .nils rfl
  have hsr:∀ (s:St) (K:St→Prop) (j n:Nat),s.L b=some (mk .nils)→aC9 1 (.own j 5 0 n) cv s K=K (s.put b (mk (.own j 5 0 n))):=fun s K j n e=>hsl.store s K .nils _ rfl rfl rfl e
  simp only [push_cast,seval,-Nat.reducePow,hnk,hld,hat2,o0,o1,o2,o3,o4,hci]
  refine aKq ?_
  simp only [push_cast,seval,-Nat.reducePow,hnk,hld,hat2,hq,hsr,nb,nb',hub,List.set_cons_zero,o0,o1,o2,o3,o4,hci]
  refine ⟨by omega,by omega,by omega,by omega,?_⟩
  exact Did.of hst (hsl.fin _ _ (h.e.cur++[n]) (n2+31) (.inr (by omega)) (by simp only [aBe,nb',if_false,if_true,key]; rw [h00]; rfl) (by simp) htn' (by simp only [aBe,if_true]; rw [h00]; rfl) (fun i hi h1 h2=>by simp only [aBe,h1,show i≠n2+31 by omega,if_false]) (by omega) (by omega))
 ·obtain ⟨q1,q2,q3,q4⟩:=hsl.own i hv
  simp only [hv,lvO] at hat2
  have hld:=fun d s K=>hsl.load d s K (.own i 5 0 h.e.cur.length) rfl
  have hsr:∀ (s:St) (K:St→Prop) (j n:Nat),s.L b=some (mk (.own i 5 0 h.e.cur.length))→aC9 1 (.own j 5 0 n) cv s K=K (s.put b (mk (.own j 5 0 n))):=fun s K j n e=>hsl.store s K _ _ rfl rfl rfl e
  have hbi:b≠i:=Ne.symm q3
  have hub2:∀ (x:Option Blk) (M:Heap),upd M i x b=M b:=fun x M=>aAi _ _ _ _ hbi
  have e6:List.take h.e.cur.length (vns h.e.cur)=vns h.e.cur:=List.take_of_length_le (by simp [aAz])
  have e8:∀ Z,(vns h.e.cur++Z::[]).getD h.e.cur.length .junk=Z:=fun Z=>aD3 (by simp [aAz])
  have e9:∀ Z y,(vns h.e.cur++Z::[]).set h.e.cur.length y=vns h.e.cur++y::[]:=fun Z y=>aKl (by simp [aAz])
  simp only [push_cast,seval,-Nat.reducePow,hnk,hld,hat2,q1,hub,hub2,hsr,hq,e6,e8,e9,o0,o1,o2,o3,o4,hci]
  refine ⟨by omega,by omega,by omega,by simp [aAz],by omega,by omega,?_⟩
  refine Did.of hst (hsl.fin _ _ (h.e.cur++[n]) (n2+31) (.inr (by omega)) (by simp only [aBe,nb',if_false,if_true,key]) (by simp) htn' (by simp only [aBe,if_true]; simp) (fun x hx h1 h2=>?_) (by omega) (by omega))
  have:x≠i:=fun e=>h2 (by rw [hv,e])
  simp only [aBe,this,h1,show x≠n2+31 by omega,if_false]
end Go.Ab
namespace Go.Ab
variable {P:Program} {F T:Nat→Nat}
theorem aT5 (l:List Node) (s:List UInt8):aAq (aCj l s)≤aAq l+s.length+1:=by
 rcases List.eq_nil_or_concat l with rfl | ⟨i,a,rfl⟩
 ·simp [aCj,aAq,Node.bulk,aBb]
 ·rw [List.concat_eq_append]
  obtain ⟨k,t,q,ks,as⟩:=a
  by_cases hk:k=1
  ·simp [aCj,hk,aAs,aAq,Node.bulk,aBb]; omega
  ·simp [aCj,hk,aAs,aAq,Node.bulk,aBb]; omega
theorem aWj (n:Node) (l:List Node):aAq (addN n l)≤aAq l+n.bulk:=by
 obtain ⟨k,t,q,ks,as⟩:=n
 by_cases hk:k=1
 ·by_cases hq:q=[]
  ·simp [addN,Node.kind,Node.text,hk,hq]
  ·have:=aT5 l q; simp [addN,Node.kind,Node.text,hk,hq,Node.bulk]; omega
 ·simp [addN,Node.kind,Node.text,hk,aAs,aAq]
theorem aV5 (ns:List Node) (e:El):(e.setCur ns).pot+aAq e.cur=e.pot+aAq ns:=by
 by_cases h:e.isA
 ·have h':=h.2
  simp only [El.setCur,El.cur,if_pos h,El.pot]
  rcases List.eq_nil_or_concat e.args with h0 | ⟨i,a,h0⟩
  ·exact absurd h0 h'
  ·rw [h0,List.concat_eq_append,aBo,aAw,aBw,aBw]
   obtain ⟨b,n,v⟩:=a
   simp [aBb,Arg.bulk,Arg.setVal,Arg.val]; omega
 ·simp only [El.setCur,El.cur,if_neg h,El.pot]; omega
theorem aBs (n:Node) (els:List El):pot (addS n els)≤pot els+n.bulk:=by
 cases els with
 | nil=>simp [addS]
 | cons e r =>
   have h1:=aV5 (addN n e.cur) e
   have h2:=aWj n e.cur
   simp only [addS,El.add_cur,pot]; omega
theorem aEd {n:Node} {els:List El} (h:els≠[]):addS n els≠[]:=by cases els with | nil=>exact absurd rfl h | cons e r=>simp [addS]
theorem aJu (els:List El):aC5 [] els=els:=rfl
theorem aCh (n:Node) (l:List Node) (els:List El):aC5 (n::l) els=aC5 l (addS n els):=rfl
theorem aCa (a b:List Node) (els:List El):aC5 (a++b) els=aC5 b (aC5 a els):=by simp [aC5,List.foldl_append]
theorem aEy (l:List Node):∀ els,pot (aC5 l els)≤pot els+aAq l:=by
 induction l with
 | nil=>intro els; simp [aJu]
 | cons n r ih=>intro els; have:=ih (addS n els); have:=aBs n els; rw [aCh]; simp only [aAq]; omega
theorem aJm {l:List Node}:∀ {els:List El},els≠[]→aC5 l els≠[]:=by
 induction l with
 | nil=>intro els h; exact h
 | cons n r ih=>intro els h; rw [aCh]; exact ih (aEd h)
theorem Did.step {L0 L L':Heap} {nx0 nx nx':Nat} {f0 f:List Nat} {p:Nat} {els:List El} {r:V} (h:Stp L0 nx0 f0 L nx f) (k:Did T L nx f p els r L' nx'):Did T L0 nx0 f0 p els r L' nx':=by
 obtain ⟨f',k1,k2⟩:=k
 exact ⟨f',k1,h.trans k2⟩
theorem fr1 {L:Heap} {n c i:Nat} {x:Option Blk} (h:i<n):upd L (n+c) x i=L i:=aAi _ _ _ _ (by omega)
theorem aIb {a:List Node} {n:Node} {els:List El}:aC5 (a++[n]) els=addS n (aC5 a els):=by rw [aCa]; rfl
theorem bCr {t:Int} {q:List UInt8} {ks:List Node} {as:List Arg} {els:List El}:addS (.mk 1 t q ks as) els=addS (tx q) els:=by cases els <;> rfl
theorem t80 (hf:Is80 P F T) (h69:Is69 P F T) (h70:Is70 P F T) (h59:Is59 P F T) (h106:aHb P F T) {L:Heap} {nx:Nat} {f:List Nat} {p:Nat} {els:List El} (hs:Stk T false L nx f p els) (l:List Node) (hb:pot els+aAq l≤2^29) (hne:els≠[]) :
 ECall P (F 80) [.ptr p 0,ln 5 (vns l)] L nx (Did T L nx f p (aC5 l els)):=by
 refine aB7 [] hf (by simp) ?_
 simp only [c80,push_cast,seval,-Nat.reducePow]
 refine aAk (fun m s=>∃ a r f',l=a++r∧m=r.length∧s.env 0=.ptr p 0∧s.env 6=ln 5 (vns (a++r))∧s.env 7=.int .i64 (a++r).length∧s.env 8=.int .i64 a.length∧Stk T false s.L s.nx f' p (aC5 a els)∧Stp L nx f s.L s.nx f') l.length ⟨[],l,f,?_⟩ fun m s hJ=>?_
 ·simp only [push_cast,seval,-Nat.reducePow,aJu]
  exact ⟨hs.grow (by omega) fun _ _=>rfl,Stp.grow (by omega) fun _ _=>rfl⟩
 ·obtain ⟨a,r,f',rfl,rfl,h0,h6,h7,h8,hst,hsp⟩:=hJ
  have hp1:=aEy a els
  rw [aAs] at hb
  have hlen:=aDq a
  cases r with
  | nil =>
    simp only [push_cast,seval,-Nat.reducePow,h0,h6,h7,h8]
    simp only [List.append_nil] at *
    exact ⟨by have:=hsp.le; omega,f',hst.grow (by omega) fun _ _=>rfl,hsp.trans (Stp.grow (by omega) fun _ _=>rfl)⟩
  | cons x r =>
    simp only [aAq] at hb
    obtain ⟨k,xt,q,ks,as⟩:=x
    simp only [push_cast,seval,-Nat.reducePow,h0,h6,h7,h8,Node.vs]
    have hne':=aJm (l:=a) hne
    have n1:∀ (x:Option Blk) (i:Nat),i<s.nx→upd s.L (s.nx+5) x i=s.L i:=fun x i hi=>aAi _ _ _ _ (by omega)
    have hle:=hsp.le
    have hbx:(Node.mk k xt q ks as).bulk=q.length+aAq ks+aBb as+1:=rfl
    refine aAd (fun hk=>?_) (fun hk=>?_)
    ·subst hk
     simp only [push_cast,seval,-Nat.reducePow,h0,h6,h7,h8,Node.vs]
     refine aAa (t69 h69 h59 h106 (hst.grow (by omega) fun i hi=>by rw [fr1 hi,fr1 hi]) q (by omega) hne') ?_
     rintro _ L' nx' ⟨f2,k1,k2⟩
     simp only [push_cast,seval,-Nat.reducePow,h0,h6,h7,h8]
     have:=k2.le
     refine ⟨by omega,r.length,by omega,a++[.mk 1 xt q ks as],r,f2,by simp,rfl,by simp,by simp,by simp,?_,?_⟩
     ·rw [aIb,bCr]; exact k1.grow (by omega) fun _ _=>rfl
     ·exact hsp.trans ((Stp.grow (by omega) fun i hi=>by rw [fr1 hi,fr1 hi]).trans (k2.trans (Stp.grow (by omega) fun _ _=>rfl)))
    ·have hk':(Node.mk k xt q ks as).kind≠1:=hk
     simp only [push_cast,seval,-Nat.reducePow,h0,h6,h7,h8,Node.vs]
     refine aAa (t70 h70 h59 h106 (hst.grow (by omega) fun i hi=>by rw [fr1 hi,fr1 hi]) (.mk k xt q ks as) hk' (by omega) hne') ?_
     rintro _ L' nx' ⟨f2,k1,k2⟩
     simp only [push_cast,seval,-Nat.reducePow,h0,h6,h7,h8]
     have:=k2.le
     refine ⟨by omega,r.length,by omega,a++[.mk k xt q ks as],r,f2,by simp,rfl,by simp,by simp,by simp,?_,?_⟩
     ·rw [aIb]; exact k1.grow (by omega) fun _ _=>rfl
     ·exact hsp.trans ((Stp.grow (by omega) fun i hi=>by rw [fr1 hi,fr1 hi]).trans (k2.trans (Stp.grow (by omega) fun _ _=>rfl)))
theorem Stk.ok {z:Bool} {L:Heap} {nx:Nat} {f:List Nat} {p:Nat} {els:List El} (h:Stk T z L nx f p els):∀ e,e∈els→e.ok:=by obtain ⟨sid,jk,hs,hp⟩:=h; exact hp.ok
theorem Stx.push {L L':Heap} {nx nx':Nat} {f:List Nat} {p:Nat} {els:List El} {sid:Nat} {jk:List V} {hs:List EH} (hp:Stx T false L nx f p els sid jk hs) (e:El) (id j:Nat) (hl:e.list=[]) (ha:e.args=[]) (hok:e.ok)
 (h1:L' p=some (.box (T 7) [.own j 1 0 (hs.length+1)])) (h2:L' j=some (.vec (T 6) 1 (hs.reverse.map EH.pt++[.ptr id 0]))) (h3:L' id=some (.box (T 5) [.int .i64 e.kind,.int .i64 e.tag,.int .i64 e.count,.nils,.nils]))
 (hid:id∉f) (hidn:id<nx') (hj:nx≤j) (hjn:j<nx') (hij:j≠id) (hfr:∀ i,i<nx→i≠p→i≠sid→i≠id→L' i=L i) (hle:nx≤nx') (hsid:id<nx→∀ ty cs,L id=some (.box ty cs)→L' id=L id) :
 ∃ f',Stk T false L' nx' f' p (e::els)∧(∀ i,i∈f'→i∈f∨i=id∨nx≤i)∧∀ i ty cs,i<nx→i∉f→L i=some (.box ty cs)→V.imms cs=true→L' i=some (.box ty cs):=by
 have hF:=hp.foot
 have hn:=hp.nodup
 rw [hF] at hn hid
 simp only [List.nodup_cons,List.mem_cons,not_or] at hn hid
 obtain ⟨⟨n1,n2⟩,n3,n4⟩:=hn
 obtain ⟨d1,d2,d3⟩:=hid
 have lt:=hp.lt
 rw [hF] at lt
 refine ⟨p::j::id::hs.flatMap EH.fp,⟨j,[],⟨e,id,none,none,none⟩::hs,⟨by simp [EH.fp],by simp [hp.map],by rw [h1]; simp,?_,?_,?_,?_,?_,?_⟩⟩,?_,?_⟩
 ·rw [h2]; simp [EH.pt]
 ·intro x hx
  rcases List.mem_cons.1 hx with rfl | hx
  ·refine ⟨by rw [h3]; simp [EH.cells,EH.lv,EH.av,lvO,hl,ha,vns,vas,ln],fun i hi=>by simp at hi,fun i hi=>by simp at hi,fun i hi=>by simp at hi⟩
  ·refine (hp.at_ x hx).frame fun i hi=>?_
   have hm:i∈hs.flatMap EH.fp:=List.mem_flatMap.2 ⟨x,hx,hi⟩
   exact hfr i (lt i (by simp [hm])) (fun e=>n2 (e ▸ hm)) (fun e=>n3 (e ▸ hm)) (fun e=>d3 (e ▸ hm))
 ·intro x hx
  rcases List.mem_cons.1 (by simpa using hx) with rfl | hx
  ·exact ⟨fun _=>hl,fun _=>ha,fun _=>by rw [ha]; rfl⟩
  ·exact hp.live x (by simpa using hx)
 ·simp only [List.nodup_cons,List.mem_cons,not_or]
  exact ⟨⟨fun e=>by have:=lt p (by simp); omega,fun e=>d1 e.symm,n2⟩,⟨hij,fun hm=>by have:=lt j (by simp [hm]); omega⟩,d3,n4⟩
 ·intro i hi
  simp only [List.mem_cons] at hi
  rcases hi with rfl | rfl | rfl | hi
  ·have:=lt i (by simp); omega
  ·exact hjn
  ·exact hidn
  ·have:=lt i (by simp [hi]); omega
 ·intro x hx
  rcases List.mem_cons.1 hx with rfl | hx
  ·exact hok
  ·exact hp.ok x hx
 ·intro i hi
  rw [hF]
  simp only [List.mem_cons] at hi ⊢
  rcases hi with rfl | rfl | rfl | hi
  ·exact .inl (.inl rfl)
  ·exact .inr (.inr hj)
  ·exact .inr (.inl rfl)
  ·exact .inl (.inr (.inr hi))
 ·intro i ty cs g1 g2 g3 g4
  rw [hF] at g2
  simp only [List.mem_cons,not_or] at g2
  by_cases e:i=id
  ·subst e; rw [hsid g1 ty cs g3]; exact g3
  ·rw [hfr i g1 g2.1 g2.2.1 e]; exact g3
theorem t71 (hf:Is71 P F T) (h69:Is69 P F T) (h59:Is59 P F T) (h106:aHb P F T) {L:Heap} {nx:Nat} {f:List Nat} {p:Nat} {els:List El} (hs:Stk T false L nx f p els) (e:El) (id:Nat) (s:List UInt8) (hb:pot els+s.length+1≤2^29) (hne:els≠[])
 (hl:e.list=[]) (ha:e.args=[]) (hok:e.ok) (hid:L id=some (.box (T 5) [.int .i64 e.kind,.int .i64 e.tag,.int .i64 e.count,.nils,.nils])) (hif:id∉f) (hidn:id<nx) :
 ECall P (F 71) [.ptr p 0,.ptr id 0,.str s] L nx fun _ L' nx'=>∃ f',Stk T false L' nx' f' p (aG2 e s els)∧nx≤nx'∧(∀ i,i∈f'→i∈f∨i=id∨nx≤i)∧∀ i ty cs,i<nx→i∉f→L i=some (.box ty cs)→V.imms cs=true→L' i=some (.box ty cs):=by
 obtain ⟨sid,jk,hs,hp⟩:=hs
 obtain ⟨h,t,rfl⟩:∃ h t,hs=h::t:=by
  cases hs with
  | nil=>exact absurd hp.map.symm hne
  | cons h t=>exact ⟨h,t,rfl⟩
 have hlen:=aDg els
 obtain ⟨r1,r2,r3,r4,r5,r6,r7,r8,r9⟩:=hp.rd
 have hel:els.length=t.length+1:=by rw [r9]; simp
 refine aB7 [] hf (by simp) ?_
 simp only [c71,push_cast,seval,-Nat.reducePow,r1]
 refine aAd (fun h0=>?_) (fun h0=>?_)
 ·simp only [push_cast,seval,-Nat.reducePow]
  refine aAa (t69 h69 h59 h106 (Stk.grow ⟨_,_,_,hp⟩ (by omega) fun _ _=>rfl) s (by omega) hne) ?_
  rintro _ L' nx' ⟨f2,k1,k2⟩
  have:=k2.le
  refine ⟨by omega,f2,?_,by omega,fun i hi=>(k2.sub i hi).elim .inl fun h=>.inr (.inr (by omega)),fun i ty cs h1 h2 h3 h4=>k2.fr i ty cs (by omega) h2 h3 h4⟩
  rw [aG2,if_pos (by rw [hel]; omega)]
  exact k1.grow (by omega) fun _ _=>rfl
 ·have hps:p≠sid:=r6
  have e6:List.take (t.length+1) (List.map EH.pt t.reverse++V.ptr h.id 0::jk)=List.map EH.pt t.reverse++[V.ptr h.id 0]:=by
   rw [List.take_append]
   simp only [List.length_map,List.length_reverse,Nat.add_sub_cancel_left,List.take_succ_cons,List.take_zero]
   rw [List.take_of_length_le (by simp)]
  have x1:p≠nx+47:=by omega
  have x2:∀ (x:Option Blk) (M:Heap),upd M (nx+47) x p=M p:=fun x M=>aAi _ _ _ _ (by omega)
  simp only [push_cast,seval,-Nat.reducePow,r1,r2,r6,e6,x1,x2]
  refine ⟨by simp,by omega,by omega,?_⟩
  have y1:sid≠nx+47:=by omega
  have y2:id≠nx+47:=by omega
  have y3:id≠p:=fun e=>hif (by rw [hp.foot,e]; simp)
  have y4:id≠sid:=fun e=>hif (by rw [hp.foot,e]; simp)
  rw [aG2,if_neg (by rw [hel]; omega)]
  obtain ⟨f',k1,k2,k3⟩:=hp.push (L':=upd (upd (upd L sid none) (nx+47) (some (Blk.vec (T 6) 1 (List.map EH.pt t.reverse++[V.ptr h.id 0]++[V.ptr id 0])))) p (some (Blk.box (T 7) [V.own (nx+47) 1 0 (t.length+2)]))) (nx':=nx+50) e id (nx+47) hl ha hok
   (by simp only [aBe,if_true]; simp) (by simp only [aBe,x1.symm,if_false,if_true]; simp [EH.pt]) (by simp only [aBe,y2,y3,y4,if_false]; exact hid) hif (by omega) (by omega) (by omega) (by omega)
   (fun i g1 g2 g3 g4=>by simp only [aBe,g2,g3,show i≠nx+47 by omega,if_false]) (by omega) (fun _ _ _ _=>by simp only [aBe,y2,y3,y4,if_false])
  exact ⟨f',k1,by omega,k2,k3⟩
theorem t79 (hf:Is79 P F T) (t:Nat) (h:1≤t∧t≤3):PTr P (F 79) [.int .i64 t] (.str (tagO t)):=by
 refine ptrC [] hf (by simp) rfl ?_
 obtain rfl | rfl | rfl:t=1∨t=2∨t=3:=by omega
 all_goals
  simp only [c79,push_cast,seval,-Nat.reducePow]
  exact ⟨by omega,by omega,rfl⟩
theorem t78x (hf:Is78 P F T) (h59:Is59 P F T) {z:Bool} {L:Heap} {nx:Nat} {f:List Nat} {p:Nat} {els:List El} {sid:Nat} {jk:List V} {h:EH} {t:List EH} (hp:Stx T z L nx f p els sid jk (h::t)) (hb:pot els≤2^30) :
 ECall P (F 78) [.ptr p 0] L nx fun r L' nx'=>∃ f',r=.ptr h.id 0∧h.id<nx'∧h.id∉f'∧L' h.id=some (.box (T 5) [.int .i64 h.e.kind,.int .i64 h.e.tag,.int .i64 h.e.count,ln 5 (vns h.e.list),ln 3 (vas h.e.args)])∧Stk T false L' nx' f' p (t.map EH.e)∧Stp L nx f L' nx' f':=by
 have hm:=hp.map
 simp only [List.map_cons] at hm
 subst hm
 refine aB7 [] hf (by simp) ?_
 simp only [c78,bLj,w_gh,aBt]
 obtain ⟨s',F',fz⟩:=frzT (s:=St.enter [.ptr p 0] L nx) hp
 refine ⟨s',fz.fz,?_⟩
 have e0:=fz.env 0 rfl
 obtain ⟨jk',hp'⟩:=fz.st
 have hnx:=fz.nx
 simp only [St.enter,List.getD_cons_zero] at e0 hnx hp'
 simp only [push_cast,seval,-Nat.reducePow,e0,hnx]
 have hl:t.length<2^32:=by
  have:=aDg (h.e::List.map EH.e t)
  simp only [List.length_cons,List.length_map] at this
  omega
 refine aAa (t59 h59 (hp'.grow (by omega)) hl) ?_
 rintro _ _ n1 ⟨rfl,rfl,hn1⟩
 obtain ⟨r1,r2,r3,r4,r5,r6,r7,r8,r9⟩:=hp'.rd
 dsimp only at r2 r5 r7 r8
 have e1:((t.length:Nat):Int)+1-1=(t.length:Nat):=by omega
 simp only [push_cast,seval,-Nat.reducePow,e0,hnx,r1,e1,Nat.sub_zero]
 refine ⟨by omega,by omega,by omega,?_⟩
 have hF:=hp'.foot
 have hn:=hp'.nodup
 rw [hF] at hn
 simp only [List.flatMap_cons,EH.fp,List.cons_append,Option.toList_none,List.append_nil,List.nil_append,List.nodup_cons,List.mem_cons,not_or] at hn
 obtain ⟨⟨m1,m2,m3⟩,⟨m4,m5⟩,m6,m7⟩:=hn
 have lt:=hp'.lt
 rw [hF] at lt
 have hsub:∀ i,i∈p::sid::t.flatMap EH.fp→i∈F':=fun i hi=>by
  rw [hF]
  simp only [List.flatMap_cons,List.mem_cons,List.mem_append] at hi ⊢
  rcases hi with rfl | rfl | hi
  ·exact .inl rfl
  ·exact .inr (.inl rfl)
  ·exact .inr (.inr (.inr hi))
 have hlp:∀ x,x∈t→At T (upd s'.L p (some (Blk.box (T 7) [V.own sid 1 0 t.length]))) x:=fun x hx=>(hp'.at_ x (List.mem_cons_of_mem _ hx)).frame fun i hi=>by
  have:i≠p:=fun e=>m3 (List.mem_flatMap.2 ⟨x,hx,e ▸ hi⟩)
  simp only [aBe,this,if_false]
 refine ⟨p::sid::t.flatMap EH.fp,by omega,?_,?_,⟨sid,V.ptr h.id 0::jk',t,⟨rfl,rfl,by simp only [aBe,if_true],?_,hlp,?_,?_,?_,?_⟩⟩,?_⟩
 ·simp only [List.mem_cons,not_or]
  exact ⟨fun e=>m2 e.symm,fun e=>m4 e.symm,m6⟩
 ·simp only [aBe,r7.symm,if_false]
  exact (hp'.at_ _ (List.mem_cons_self)).box
 ·simp only [aBe,r6.symm,if_false]
  exact r2
 ·intro x hx
  have:=hp'.live x (by simpa using hx)
  exact this
 ·simp only [List.nodup_cons,List.mem_cons,not_or]
  exact ⟨⟨m1,m3⟩,m5,m7⟩
 ·intro i hi
  have:=hp'.lt i (hsub i hi)
  omega
 ·intro e he
  exact hp'.ok e (List.mem_cons_of_mem _ he)
 ·have hst:=fz.stp
  simp only [St.enter] at hst
  refine hst.trans ⟨by omega,fun i hi=>.inl (hsub i hi),fun i ty cs g1 g2 g3 g4=>?_⟩
  have:i≠p:=fun e=>g2 (by rw [hF,e]; simp)
  simp only [aBe,this,if_false]; exact g3
theorem t78 (hf:Is78 P F T) (h59:Is59 P F T) {z:Bool} {L:Heap} {nx:Nat} {f:List Nat} {p:Nat} {e:El} {els:List El} (hs:Stk T z L nx f p (e::els)) (hb:pot (e::els)≤2^30) :
 ECall P (F 78) [.ptr p 0] L nx fun r L' nx'=>∃ f' id,r=.ptr id 0∧id<nx'∧id∉f'∧L' id=some (.box (T 5) [.int .i64 e.kind,.int .i64 e.tag,.int .i64 e.count,ln 5 (vns e.list),ln 3 (vas e.args)])∧Stk T false L' nx' f' p els∧Stp L nx f L' nx' f':=by
 obtain ⟨sid,jk,hs,hp⟩:=hs
 obtain ⟨h,t,rfl⟩:∃ h t,hs=h::t:=by
  cases hs with
  | nil=>have:=hp.map; simp at this
  | cons h t=>exact ⟨h,t,rfl⟩
 have hm:=hp.map
 simp only [List.map_cons,List.cons.injEq] at hm
 obtain ⟨rfl,rfl⟩:=hm
 refine (t78x hf h59 hp hb).mono ?_
 rintro r L' nx' ⟨f',h1,h2,h3,h4,h5,h6⟩
 exact ⟨f',h.id,h1,h2,h3,h4,h5,h6⟩
end Go.Ab
