/- Several texts of one kind, merged. No condition. -/
import Derived.Test.YtdnhjbdnebokiaaGreatDoorAbK2
set_option linter.unusedSimpArgs false
set_option linter.unusedVariables false
namespace Go.Ab
def aWc:List UInt8:=[60,110,111,119,105,107,105,62]
def aXc:List UInt8:=[60,47,110,111,119,105,107,105,62]
def tagO (t:Nat):List UInt8:=[60]++aA9 t++[62]
def tagC (t:Nat):List UInt8:=[60,47]++aA9 t++[62]
def runL (c:UInt8):List UInt8→Nat
 | []=>0
 | x::r=>if x=c then runL c r+1 else 0
def idxF (t:List UInt8):List UInt8→Nat→Option Nat
 | [],i=>if t=[] then some i else none
 | x::r,i=>if t.isPrefixOf (x::r) then some i else idxF t r (i+1)
def aNv (o:Nat→List UInt8) (s:List UInt8):Nat :=
 if (o 1).isPrefixOf s then 1 else if (o 2).isPrefixOf s then 2 else if (o 3).isPrefixOf s then 3 else 0
def bEi (s:List UInt8):Nat×Nat :=
 if aNv tagO s≠0 then (11,(tagO (aNv tagO s)).length) else if aNv tagC s≠0 then (12,(tagC (aNv tagC s)).length) else (0,0)
def bJ8 (s:List UInt8):Nat×Nat :=
 if [60,33,45,45].isPrefixOf s then
  match idxF [45,45,62] (s.drop 4) 0 with
  | some k=>(9,4+k+3)
  | none=>(9,s.length)
 else if aWc.isPrefixOf s then
  match idxF aXc (s.drop 8) 0 with
  | some k=>(10,8+k+9)
  | none=>bEi s
 else bEi s
def aBa (s:List UInt8):Nat×Nat :=
 match s with
 | []=>(0,0)
 | c::_ =>
   if c=60 then bJ8 s
   else if c=123 then (if 2≤runL 123 s then (3,runL 123 s) else (0,0))
   else if c=125 then (if 2≤runL 125 s then (4,runL 125 s) else (0,0))
   else if c=91 then (if 2≤runL 91 s then (5,2) else (0,0))
   else if c=93 then (if 2≤runL 93 s then (6,2) else (0,0))
   else if c=124 then (7,1)
   else if c=61 then (8,1)
   else if c=10 then (2,1)
   else (0,0)
structure Tok where
 kind:Nat
 fr:Nat
 to:Nat
def aGq (s:List UInt8):Nat→Nat→Nat→List Tok
 | 0,_,_=>[]
 | n+1,t,i =>
   if i<s.length then
    if (aBa (s.drop i)).1=0 then aGq s n t (i+1)
    else (if t<i then [⟨1,t,i⟩] else [])++⟨(aBa (s.drop i)).1,i,i+(aBa (s.drop i)).2⟩::aGq s n (i+(aBa (s.drop i)).2) (i+(aBa (s.drop i)).2)
   else if t<s.length then [⟨1,t,s.length⟩] else []
def scan (s:List UInt8):List Tok:=aGq s (s.length+1) 0 0
def Tok.text (s:List UInt8) (t:Tok):List UInt8:=(s.take t.to).drop t.fr
def Tok.tag (s:List UInt8) (t:Tok):Nat:=if t.kind=11 then aNv tagO (t.text s) else if t.kind=12 then aNv tagC (t.text s) else 0
structure El where
 kind:Nat
 tag:Nat
 count:Nat
 list:List Node
 args:List Arg
def tx (s:List UInt8):Node:=.mk 1 0 s [] []
def Node.kind:Node→Int | .mk k _ _ _ _=>k
def Node.text:Node→List UInt8 | .mk _ _ s _ _=>s
def addN (n:Node) (l:List Node):List Node:=if n.kind=1 then (if n.text=[] then l else aB7 l n.text) else l++[n]
def Arg.val:Arg→List Node | .mk _ _ v=>v
def Arg.nm:Arg→List Node | .mk _ n _=>n
def Arg.named:Arg→Bool | .mk b _ _=>b
def Arg.setVal (v:List Node):Arg→Arg | .mk b n _=>.mk b n v
def aKc (f:Arg→Arg):List Arg→List Arg
 | []=>[]
 | [a]=>[f a]
 | a::b::r=>a::aKc f (b::r)
def El.add (n:Node) (e:El):El :=
 if e.kind=3∧e.args≠[] then { e with args:=aKc (fun a=>a.setVal (addN n a.val)) e.args } else { e with list:=addN n e.list }
def addS (n:Node):List El→List El
 | []=>[]
 | e::r=>e.add n::r
def bJq (l:List Node) (st:List El):List El:=l.foldl (fun st n=>addS n st) st
def El.head (e:El):List UInt8:=if e.kind=1 then [91,91] else if e.kind=2 then tagO e.tag else if e.kind=3 then List.replicate e.count 123 else []
def Arg.pieces:Arg→List Node | .mk b n v=>tx [124]::((if b then n++[tx [61]] else [])++v)
def El.pieces (e:El):List Node:=tx e.head::(e.list++e.args.flatMap Arg.pieces)
def flat1:List El→List El
 | []=>[]
 | e::r=>bJq e.pieces r
def aVz:Nat→List El→List El
 | 0,st=>st
 | n+1,st=>aVz n (flat1 st)
def bHv (e:El) (s:List UInt8) (st:List El):List El:=if 20<st.length then addS (tx s) st else e::st
def barF:List El→List El
 | []=>[]
 | e::r=>if e.kind=3 then { e with args:=e.args++[.mk false [] []] }::r else addS (tx [124]) (e::r)
def aFs:List Arg→Bool
 | []=>true
 | [a]=>a.named
 | _::b::r=>aFs (b::r)
def eqF:List El→List El
 | []=>[]
 | e::r=>if e.kind=3∧aFs e.args=false then { e with args:=aKc (fun a=>.mk true a.val []) e.args }::r else addS (tx [61]) (e::r)
def bOz:List El→List El
 | []=>[]
 | e::r=>if e.kind=1 then bJq (tx [91,91]::(e.list++[tx [93,93]])) r else addS (tx [93,93]) (e::r)
def bEt (t:Nat):List El→Option Nat
 | []=>none
 | [_]=>none
 | e::b::r=>if e.kind=2∧e.tag=t then some 0 else (bEt t (b::r)).map (·+1)
def tagF (t:Nat) (s:List UInt8) (st:List El):List El :=
 match bEt t st with
 | none=>addS (tx s) st
 | some k=>match aVz k st with
   | []=>[]
   | e::r=>addS (.mk 6 t [] e.list []) r
def aTc:List El→Option Nat
 | []=>none
 | [_]=>none
 | e::b::r=>if e.kind=2 then none else if e.kind=3 then some 0 else (aTc (b::r)).map (·+1)
def useK (c n:Nat):Nat:=if 3≤c∧3≤n then 3 else 2
def useN (c:Nat) (e:El):Node:=.mk (if useK c e.count=3 then 5 else 4) 0 [] e.list e.args
def aZb:Nat→Nat→List El→List El
 | 0,c,st=>addS (tx (List.replicate c 125)) st
 | n+1,c,st =>
   if 2≤c then match aTc st with
    | none=>addS (tx (List.replicate c 125)) st
    | some k=>match aVz k st with
      | []=>[]
      | e::r =>
        if 2≤e.count-useK c e.count then aZb n (c-useK c e.count) ({ e with count:=e.count-useK c e.count,list:=[useN c e],args:=[] }::r)
        else aZb n (c-useK c e.count) (addS (useN c e) (if e.count-useK c e.count=1 then addS (tx [123]) r else r))
   else addS (tx (List.replicate c 125)) st
def aEl (s:List UInt8) (t:Tok) (st:List El):List El :=
 if t.kind=9 then addS (.mk 2 0 (t.text s) [] []) st
 else if t.kind=10 then addS (.mk 3 0 (((t.text s).take ((t.text s).length-9)).drop 8) [] []) st
 else if t.kind=3 then bHv ⟨3,0,(t.text s).length,[],[]⟩ (t.text s) st
 else if t.kind=5 then bHv ⟨1,0,0,[],[]⟩ (t.text s) st
 else if t.kind=11 then bHv ⟨2,t.tag s,0,[],[]⟩ (t.text s) st
 else if t.kind=7 then barF st
 else if t.kind=8 then eqF st
 else if t.kind=6 then bOz st
 else if t.kind=12 then tagF (t.tag s) (t.text s) st
 else if t.kind=4 then aZb (t.text s).length (t.text s).length st
 else addS (tx (t.text s)) st
def root:El:=⟨0,0,0,[],[]⟩
def runF (s:List UInt8) (l:List Tok) (st:List El):List El:=l.foldl (fun st t=>aEl s t st) st
def finF (st:List El):List Node:=match aVz (st.length-1) st with | e::_=>e.list | []=>[]
def aCn (s:List UInt8):List Node:=finF (runF s (scan s) [root])
end Go.Ab
namespace Go.Ab
def c36 (F T:Nat→Nat):C :=
 .n [.mov (some 2) (.k .nils),.mov (some 3) (.i 0)] <|
 .n [.m 10 0,.c 11 (F 56) [.t 10],.m 9 11,.x 12 0 9,.x 13 1 9,.m 4 12,.m 5 13] <|
 .seq (.n [.m 14 5,.bi 15 .neq 14 0] <|
 .cond (.t 15)
 (.n [.m 16 5,.mov (some 2) (.k .nils),.m 3 16] <|
 .ret)
 (.skip)) <|
 .n [.build (some 17) [(.int .i64 0),(.int .i64 0),(.int .i64 0),.nils,.nils] [(0,1,(.i 0))],.box 18 (T 5) (.t 17),.mkv 19 (T 6) 1 [.t 18],.build (some 20) [.nils] [(0,1,(.t 19))],.box 21 (T 7) (.t 20),.m 6 21] <|
 .seq (.n [.m 22 4,.ll 23 22,.mov (some 24) (.i 0)] <|
 .block 0 <|
 .loop <|
 .n [.b 25 .lss 24 23] <|
 .seq (.cond (.t 25)
 (.skip)
 (.exit 0)) <|
 .seq (.block 1 <|
 .n [.ia 26 3 22 24,.load (some 27) false 3 true (.t 26),.alloc 8 (T 8) [(.int .i64 0),(.int .i64 0),(.int .i64 0)],.store 3 (.t 8) (.t 27)] <|
 .o [.m 28 6,.m 29 0,.load (some 30) false 3 true (.t 8),.e 31 46 (F 57) [.t 28,.t 29,.t 30]]) <|
 .o [.bi 32 .add 24 1,.m 24 32]) <|
 .seq (.block 2 <|
 .loop <|
 .seq (.n [.m 33 6,.nchk (some 34) (.t 33),.f 35 0 34,.l 36 35,.ll 37 36,.bi 38 .gtr 37 1] <|
 .cond (.t 38)
 (.skip)
 (.exit 2)) <|
 .block 3 <|
 .o [.m 39 6,.e 40 46 (F 58) [.t 39]]) <|
 .n [.m 41 6,.e 42 46 (F 59) [.t 41],.nchk (some 43) (.t 42),.f 44 3 43,.l 45 44,.m 2 45,.mov (some 3) (.i 0)] <|
 .ret
abbrev Is36 (P:Program) (F T:Nat→Nat):Prop:=Fn P (F 36) 46 [(2,none),(3,none)] (c36 F T)
def c57 (F T:Nat→Nat):C :=
 .n [.box 5 (T 8) (.t 2)] <|
 .n [.m 7 1,.load (some 8) false 3 true (.t 5),.c 9 (F 68) [.t 7,.t 8],.m 6 9] <|
 .n [.f 10 0 5,.l 11 10] <|
 .block 0 <|
 .seq (.n [.bi 13 .eql 11 1,.m 12 13] <|
 .cond (.t 12)
 (.skip)
 (.o [.bi 14 .eql 11 2,.m 12 14])) <|
 .cond (.t 12)
 (.o [.m 15 0,.m 16 6,.e 17 86 (F 69) [.t 15,.t 16]])
 (.n [.bi 19 .eql 11 9,.m 18 19] <|
 .cond (.t 18)
 (.o [.m 20 0,.m 21 6,.build (some 22) [(.int .i64 0),(.int .i64 0),(.str []),.nils,.nils] [(0,1,(.i 2)),(2,1,(.t 21))],.e 23 86 (F 70) [.t 20,.t 22]])
 (.n [.bi 25 .eql 11 10,.m 24 25] <|
 .cond (.t 24)
 (.o [.m 26 0,.m 27 6,.m 28 6,.ls 29 28,.bi 30 .sub 29 9,.slcS (some 31) (.t 27) (some (.i 8)) (some (.t 30)),.build (some 32) [(.int .i64 0),(.int .i64 0),(.str []),.nils,.nils] [(0,1,(.i 3)),(2,1,(.t 31))],.e 33 86 (F 70) [.t 26,.t 32]])
 (.n [.bi 35 .eql 11 3,.m 34 35] <|
 .cond (.t 34)
 (.o [.m 36 0,.m 37 6,.ls 38 37,.build (some 39) [(.int .i64 0),(.int .i64 0),(.int .i64 0),.nils,.nils] [(0,1,(.i 3)),(2,1,(.t 38))],.box 40 (T 5) (.t 39),.m 41 6,.e 42 86 (F 71) [.t 36,.t 40,.t 41]])
 (.n [.bi 44 .eql 11 5,.m 43 44] <|
 .cond (.t 43)
 (.o [.m 45 0,.build (some 46) [(.int .i64 0),(.int .i64 0),(.int .i64 0),.nils,.nils] [(0,1,(.i 1))],.box 47 (T 5) (.t 46),.m 48 6,.e 49 86 (F 71) [.t 45,.t 47,.t 48]])
 (.n [.bi 51 .eql 11 11,.m 50 51] <|
 .cond (.t 50)
 (.o [.m 52 0,.m 53 1,.load (some 54) false 3 true (.t 5),.c 55 (F 72) [.t 53,.t 54],.build (some 56) [(.int .i64 0),(.int .i64 0),(.int .i64 0),.nils,.nils] [(0,1,(.i 2)),(1,1,(.t 55))],.box 57 (T 5) (.t 56),.m 58 6,.e 59 86 (F 71) [.t 52,.t 57,.t 58]])
 (.n [.bi 61 .eql 11 7,.m 60 61] <|
 .cond (.t 60)
 (.o [.m 62 0,.e 63 86 (F 73) [.t 62]])
 (.n [.bi 65 .eql 11 8,.m 64 65] <|
 .cond (.t 64)
 (.o [.m 66 0,.e 67 86 (F 74) [.t 66]])
 (.n [.bi 69 .eql 11 6,.m 68 69] <|
 .cond (.t 68)
 (.o [.m 70 0,.e 71 86 (F 75) [.t 70]])
 (.n [.bi 73 .eql 11 12,.m 72 73] <|
 .cond (.t 72)
 (.o [.m 74 0,.m 75 1,.load (some 76) false 3 true (.t 5),.c 77 (F 72) [.t 75,.t 76],.m 78 6,.e 79 86 (F 76) [.t 74,.t 77,.t 78]])
 (.n [.bi 81 .eql 11 4,.m 80 81] <|
 .cond (.t 80)
 (.o [.m 82 0,.m 83 6,.ls 84 83,.e 85 86 (F 77) [.t 82,.t 84]])
 (.skip)))))))))))
abbrev Is57 (P:Program) (F T:Nat→Nat):Prop:=Fn P (F 57) 86 [] (c57 F T)
def c59 (F T:Nat→Nat):C :=
 .n [.mov (some 2) (.k .nilp)] <|
 .seq (.p [.m 3 0,.nchk (some 4) (.t 3),.f 5 0 4,.l 6 5,.m 7 0,.nchk (some 8) (.t 7),.f 9 0 8,.l 10 9,.ll 11 10,.bi 12 .sub 11 1,.ia 13 1 6 12,.l 14 13,.m 2 14]) <|
 .ret
abbrev Is59 (P:Program) (F T:Nat→Nat):Prop:=Fn P (F 59) 15 [(2,none)] (c59 F T)
def c69 (F T:Nat→Nat):C :=
 .seq (.n [.m 6 1,.bin (some 7) .eql (.t 6) (.s [])] <|
 .cond (.t 7)
 (.ret)
 (.skip)) <|
 .n [.m 8 0,.e 9 50 (F 59) [.t 8],.e 10 50 (F 106) [.t 9],.m 4 10] <|
 .seq (.n [.m 11 4,.nchk (some 12) (.t 11),.l 13 12,.ll 14 13,.m 5 14] <|
 .seq (.ops false [⟨none,[.m 15 5,.bi 16 .gtr 15 0,.m 17 16]⟩,
 ⟨some (17,true),[.m 18 4,.nchk (some 19) (.t 18),.l 20 19,.m 21 5,.bi 22 .sub 21 1,.ia 23 5 20 22,.f 24 0 23,.l 25 24,.bi 26 .eql 25 1]⟩,
 ⟨none,[.pf 27 17 26]⟩]) <|
 .cond (.t 27)
 (.n [.m 28 4,.nchk (some 29) (.t 28),.l 30 29,.m 31 5,.bi 32 .sub 31 1,.ia 33 5 30 32,.f 34 2 33,.l 35 34,.m 36 1,.b 37 .add 35 36,.ia 38 5 30 32,.f 39 2 38,.store 1 (.t 39) (.t 37)] <|
 .ret)
 (.skip)) <|
 .p [.m 40 4,.nchk (some 41) (.t 40),.l 42 41,.m 43 1,.build (some 44) [(.int .i64 0),(.int .i64 0),(.str []),.nils,.nils] [(0,1,(.i 1)),(2,1,(.t 43))],.ll 45 42,.mkl (some 46) 5 [(.k (.agg [(.int .i64 0),(.int .i64 0),(.str []),.nils,.nils]))],.app 47 (T 0) 5 (.t 42) (.t 46),.ia 48 5 47 45,.stq true 5 (.t 48) (.t 44),.nchk (some 49) (.t 40),.stq false 1 (.t 49) (.t 47)]
abbrev Is69 (P:Program) (F T:Nat→Nat):Prop:=Fn P (F 69) 50 [] (c69 F T)
def c74 (F T:Nat→Nat):C :=
 .n [.m 4 0,.e 5 51 (F 59) [.t 4],.m 2 5] <|
 .seq (.n [.m 6 2,.nchk (some 7) (.t 6),.f 8 4 7,.l 9 8,.ll 10 9,.m 3 10] <|
 .seq (.ops false [⟨none,[.m 11 2,.nchk (some 12) (.t 11),.f 13 0 12,.l 14 13,.bi 15 .eql 14 3,.m 16 15]⟩,
 ⟨some (16,true),[.m 17 3,.bi 18 .gtr 17 0]⟩,
 ⟨none,[.pf 19 16 18,.m 20 19]⟩,
 ⟨some (20,true),[.m 21 2,.nchk (some 22) (.t 21),.f 23 4 22,.l 24 23,.m 25 3,.bi 26 .sub 25 1,.ia 27 3 24 26,.f 28 0 27,.l 29 28,.un (some 30) .not (.t 29)]⟩,
 ⟨none,[.pf 31 20 30]⟩]) <|
 .cond (.t 31)
 (.seq (.gh .fz <| .p [.m 32 2,.nchk (some 33) (.t 32),.f 34 4 33,.l 35 34,.m 36 3,.bi 37 .sub 36 1,.m 38 2,.nchk (some 39) (.t 38),.f 40 4 39,.l 41 40,.m 42 3,.bi 43 .sub 42 1,.ia 44 3 41 43,.f 45 2 44,.l 46 45,.build (some 47) [(.bool false),.nils,.nils] [(0,1,(.k (.bool true))),(1,1,(.t 46))],.ia 48 3 35 37,.store 3 (.t 48) (.t 47)]) <|
 .ret)
 (.skip)) <|
 .o [.m 49 0,.e 50 51 (F 69) [.t 49,.s [61]]]
abbrev Is74 (P:Program) (F T:Nat→Nat):Prop:=Fn P (F 74) 51 [] (c74 F T)
def c106 (F T:Nat→Nat):C :=
 .n [.mov (some 2) (.k .nilp)] <|
 .seq (.n [.m 4 0,.nchk (some 5) (.t 4),.f 6 4 5,.l 7 6,.ll 8 7,.m 3 8] <|
 .seq (.ops false [⟨none,[.m 9 0,.nchk (some 10) (.t 9),.f 11 0 10,.l 12 11,.bi 13 .eql 12 3,.m 14 13]⟩,
 ⟨some (14,true),[.m 15 3,.bi 16 .gtr 15 0]⟩,
 ⟨none,[.pf 17 14 16]⟩]) <|
 .cond (.t 17)
 (.n [.m 18 0,.nchk (some 19) (.t 18),.f 20 4 19,.l 21 20,.m 22 3,.bi 23 .sub 22 1,.ia 24 3 21 23,.f 25 2 24,.m 2 25] <|
 .ret)
 (.skip)) <|
 .n [.m 26 0,.nchk (some 27) (.t 26),.f 28 3 27,.m 2 28] <|
 .ret
abbrev aT8 (P:Program) (F T:Nat→Nat):Prop:=Fn P (F 106) 29 [(2,none)] (c106 F T)
end Go.Ab
namespace Go.Ab
def ln (z:Nat):List V→V
 | []=>.nils
 | x::r=>.lst z (x::r)
theorem bGv {z:Nat} {x:V} {r:List V}:ln z (x::r)=.lst z (x::r):=rfl
theorem bLq {z:Nat}:ln z []=.nils:=rfl
theorem bG8 {z:Nat} {l:List V} (h:l≠[]):ln z l=.lst z l:=by cases l with | nil=>exact absurd rfl h | cons x r=>rfl
theorem bFz {z:Nat} {a:List V} {x:V}:ln z (a++[x])=.lst z (a++[x]):=bG8 (by simp)
theorem aF8 {z:Nat} {l:List V}:(ln z l).imm=V.imms l:=by cases l <;> simp [ln,V.imm,V.imms]
theorem bIz {z:Nat} {l:List V}:(ln z l).one=true:=by cases l <;> rfl
theorem bCz {z:Nat} {l:List V}:(ln z l).cells=[ln z l]:=by cases l <;> rfl
theorem aWt {z:Nat} {l:List V}:(ln z l).ncells=some 1:=by cases l <;> rfl
theorem bD6 {s:St} {K:St→Prop} {d:Option Nat} {z:Nat} {l:List V}:aG4 d false (ln z l) s K=K (s.setO d (.int .i64 l.length)):=by
 cases l <;> simp [ln,aG4]
theorem aUd {z:Nat} {L:Heap} {l:List V} {K:List V→Prop}:aAp z L (ln z l) K=K l:=by cases l <;> simp [ln,aAp]
theorem aYf {s:St} {K:St→Prop} {d:Option Nat} {z:Nat} {l:List V} {k:IntKind} {n:Int}:aGc d z (ln z l) (.int k n) s K=(0≤n∧n.toNat<l.length∧K (s.setO d (.cptr (l.getD n.toNat .junk).cells))):=by
 cases l <;> simp [ln,aGc]
theorem bAn {z:Nat} {a b:List V} (h:V.leL a b):V.le (ln z a) (.lst z b):=by
 cases a with
 | nil=>simp only [V.leL] at h; subst h; simp [ln,V.le]
 | cons x r=>simp only [ln,V.le]; exact ⟨b,rfl,h⟩
mutual
def Node.vs:Node→List V
 | .mk k t s ks as=>[.int .i64 k,.int .i64 t,.str s,ln 5 (vns ks),ln 3 (vas as)]
def vns:List Node→List V
 | []=>[]
 | n::r=>.agg n.vs::vns r
def Arg.vs:Arg→List V
 | .mk b n v=>[.bool b,ln 5 (vns n),ln 5 (vns v)]
def vas:List Arg→List V
 | []=>[]
 | n::r=>.agg n.vs::vas r
end
theorem aF0 (a b:List Node):vns (a++b)=vns a++vns b:=by
 induction a with
 | nil=>rfl
 | cons x r ih=>simp [vns,ih]
theorem aBd (a:List Node):(vns a).length=a.length:=by
 induction a with
 | nil=>rfl
 | cons x r ih=>simp [vns,ih]
theorem aHy (a b:List Arg):vas (a++b)=vas a++vas b:=by
 induction a with
 | nil=>rfl
 | cons x r ih=>simp [vas,ih]
theorem aBt (a:List Arg):(vas a).length=a.length:=by
 induction a with
 | nil=>rfl
 | cons x r ih=>simp [vas,ih]
theorem bJr (a:List Node) (x:Node) (r:List Node):(vns (a++x::r)).getD a.length .junk=.agg x.vs:=by
 rw [aF0,← aBd a,List.getD_eq_getElem?_getD,List.getElem?_append_right (Nat.le_refl _)]; simp [vns]
theorem bIt (a:List Arg) (x:Arg) (r:List Arg):(vas (a++x::r)).getD a.length .junk=.agg x.vs:=by
 rw [aHy,← aBt a,List.getD_eq_getElem?_getD,List.getElem?_append_right (Nat.le_refl _)]; simp [vas]
mutual
theorem aW4:∀ n:Node,V.imms n.vs=true
 | .mk k t s ks as=>by simp [Node.vs,V.imms,V.imm,aF8,aBn ks,aFu as]
theorem aBn:∀ l:List Node,V.imms (vns l)=true
 | []=>by simp [vns,V.imms]
 | n::r=>by simp [vns,V.imms,V.imm,aW4 n,aBn r]
theorem aR7:∀ n:Arg,V.imms n.vs=true
 | .mk b n v=>by simp [Arg.vs,V.imms,V.imm,aF8,aBn n,aBn v]
theorem aFu:∀ l:List Arg,V.imms (vas l)=true
 | []=>by simp [vas,V.imms]
 | n::r=>by simp [vas,V.imms,V.imm,aR7 n,aFu r]
end
mutual
theorem bNm:∀ n:Node,V.leL n.vs n.cs
 | .mk k t s ks as=>by simp only [Node.vs,Node.cs,aEq,aMm]; exact ⟨V.le_refl _,V.le_refl _,V.le_refl _,bAn (aNt ks),bAn (bEf as),trivial⟩
theorem aNt:∀ l:List Node,V.leL (vns l) (encs l)
 | []=>by simp [vns,encs,V.leL]
 | n::r=>by simp only [vns,encs,aEq,bAk]; exact ⟨bNm n,aNt r⟩
theorem bIv:∀ n:Arg,V.leL n.vs n.cs
 | .mk b n v=>by simp only [Arg.vs,Arg.cs,aEq,aMm]; exact ⟨V.le_refl _,bAn (aNt n),bAn (aNt v),trivial⟩
theorem bEf:∀ l:List Arg,V.leL (vas l) (encA l)
 | []=>by simp [vas,encA,V.leL]
 | n::r=>by simp only [vas,encA,aEq,bAk]; exact ⟨bIv n,bEf r⟩
end
attribute [push_cast] bGv bLq bFz aF8 bIz bCz aWt bD6 aUd aYf aBd aBt bJr bIt aW4 aBn aR7 aFu
def El.pot (e:El):Nat:=30+2*e.count+aA4 e.list+aCl e.args+5*e.args.length
def pot:List El→Nat
 | []=>0
 | e::r=>e.pot+pot r
def tns (l:List Node):Prop:=∀ n,n∈l→n.tn
structure El.ok (e:El):Prop where
 tag:e.kind=2→1≤e.tag∧e.tag≤3
 list:tns e.list
 args:∀ a,a∈e.args→tns a.nm∧tns a.val
def aCh:List Arg→List Node
 | []=>[]
 | [a]=>a.val
 | _::b::r=>aCh (b::r)
def vasO (vv:V):List Arg→List V
 | []=>[]
 | [a]=>[.agg [.bool a.named,ln 5 (vns a.nm),vv]]
 | a::b::r=>.agg a.vs::vasO vv (b::r)
theorem aAz (i:List Arg) (a:Arg):aCh (i++[a])=a.val:=by
 induction i with
 | nil=>rfl
 | cons x r ih=>cases r with | nil=>rfl | cons y q=>simpa [aCh] using ih
theorem aDi (vv:V) (i:List Arg) (a:Arg):vasO vv (i++[a])=vas i++[.agg [.bool a.named,ln 5 (vns a.nm),vv]]:=by
 induction i with
 | nil=>rfl
 | cons x r ih=>cases r with | nil=>simp [vasO,vas] | cons y q=>simpa [vasO,vas] using ih
theorem aCq (f:Arg→Arg) (i:List Arg) (a:Arg):aKc f (i++[a])=i++[f a]:=by
 induction i with
 | nil=>rfl
 | cons x r ih=>cases r with | nil=>rfl | cons y q=>simpa [aKc] using ih
theorem aGd (i:List Arg) (a:Arg):aFs (i++[a])=a.named:=by
 induction i with
 | nil=>rfl
 | cons x r ih=>cases r with | nil=>rfl | cons y q=>simpa [aFs] using ih
theorem aQa (l:List Arg):vasO (ln 5 (vns (aCh l))) l=vas l:=by
 rcases List.eq_nil_or_concat l with rfl | ⟨i,a,rfl⟩
 ·rfl
 ·obtain ⟨b,n,v⟩:=a
  rw [List.concat_eq_append,aAz,aDi,aHy]; simp [vas,Arg.vs,Arg.named,Arg.nm,Arg.val]
structure EH where
 e:El
 id:Nat
 li:Option Nat
 ai:Option Nat
 vi:Option Nat
def lvO (z len:Nat) (v:V):Option Nat→V
 | none=>v
 | some i=>.own i z 0 len
def EH.lv (h:EH):V:=lvO 5 h.e.list.length (ln 5 (vns h.e.list)) h.li
def EH.vv (h:EH):V:=lvO 5 (aCh h.e.args).length (ln 5 (vns (aCh h.e.args))) h.vi
def EH.av (h:EH):V:=lvO 3 h.e.args.length (ln 3 (vas h.e.args)) h.ai
def EH.cells (h:EH):List V:=[.int .i64 h.e.kind,.int .i64 h.e.tag,.int .i64 h.e.count,h.lv,h.av]
def EH.fp (h:EH):List Nat:=h.id::(h.li.toList++h.ai.toList++h.vi.toList)
structure At (T:Nat→Nat) (L:Heap) (h:EH):Prop where
 box:L h.id=some (.box (T 5) h.cells)
 li:∀ i,h.li=some i→L i=some (.vec (T 0) 5 (vns h.e.list))∧h.e.list≠[]
 ai:∀ i,h.ai=some i→L i=some (.vec (T 1) 3 (vasO h.vv h.e.args))∧h.e.args≠[]
 vi:∀ i,h.vi=some i→L i=some (.vec (T 0) 5 (vns (aCh h.e.args)))∧aCh h.e.args≠[]∧h.ai≠none
structure EH.live (h:EH):Prop where
 li:h.li=none→h.e.list=[]
 ai:h.ai=none→h.e.args=[]
 vi:h.vi=none→aCh h.e.args=[]
def EH.pt (h:EH):V:=.ptr h.id 0
structure Stx (T:Nat→Nat) (z:Bool) (L:Heap) (nx:Nat) (F:List Nat) (p:Nat) (els:List El) (sid:Nat) (jk:List V) (hs:List EH):Prop where
 foot:F=p::sid::hs.flatMap EH.fp
 map:hs.map EH.e=els
 box:L p=some (.box (T 7) [.own sid 1 0 hs.length])
 stk:L sid=some (.vec (T 6) 1 (hs.reverse.map EH.pt++jk))
 at_:∀ h,h∈hs→At T L h
 live:∀ h,h∈(if z then hs.tail else hs)→h.live
 nodup:F.Nodup
 lt:∀ i,i∈F→i<nx
 ok:∀ e,e∈els→e.ok
def Stk (T:Nat→Nat) (z:Bool) (L:Heap) (nx:Nat) (F:List Nat) (p:Nat) (els:List El):Prop:=∃ sid jk hs,Stx T z L nx F p els sid jk hs
structure Stp (L:Heap) (nx:Nat) (F:List Nat) (L':Heap) (nx':Nat) (F':List Nat):Prop where
 le:nx≤nx'
 sub:∀ i,i∈F'→i∈F∨nx≤i
 fr:∀ i ty cs,i<nx→i∉F→L i=some (.box ty cs)→V.imms cs=true→L' i=some (.box ty cs)
theorem Stp.refl (L:Heap) (nx:Nat) (F:List Nat):Stp L nx F L nx F:=⟨Nat.le_refl _,fun i h=>.inl h,fun i ty cs _ _ h _=>h⟩
theorem Stp.trans {L L' L'':Heap} {nx nx' nx'':Nat} {F F' F'':List Nat} (h:Stp L nx F L' nx' F') (k:Stp L' nx' F' L'' nx'' F''):Stp L nx F L'' nx'' F'' :=
 ⟨Nat.le_trans h.le k.le,fun i hi=>(k.sub i hi).elim (h.sub i) fun hh=>.inr (Nat.le_trans h.le hh),fun i ty cs h1 h2 h3 h4=>k.fr i ty cs (Nat.lt_of_lt_of_le h1 h.le) (fun hi=>(h.sub i hi).elim h2 fun hh=>absurd h1 (Nat.not_lt.2 hh)) (h.fr i ty cs h1 h2 h3 h4) h4⟩
theorem Stp.grow {L L':Heap} {nx nx':Nat} {F:List Nat} (hle:nx≤nx') (h:∀ i,i<nx→L' i=L i):Stp L nx F L' nx' F:=⟨hle,fun i hi=>.inl hi,fun i ty cs h1 _ h3 _=>by rw [h i h1]; exact h3⟩
theorem At.frame {T:Nat→Nat} {L L':Heap} {h:EH} (ha:At T L h) (hf:∀ i,i∈h.fp→L' i=L i):At T L' h :=
 ⟨by rw [hf _ (by simp [EH.fp])]; exact ha.box,fun i hi=>by rw [hf _ (by simp [EH.fp,hi])]; exact ha.li i hi,fun i hi=>by rw [hf _ (by simp [EH.fp,hi])]; exact ha.ai i hi,fun i hi=>by rw [hf _ (by simp [EH.fp,hi])]; exact ha.vi i hi⟩
theorem Stx.grow {T:Nat→Nat} {z:Bool} {L:Heap} {nx nx':Nat} {F:List Nat} {p:Nat} {els:List El} {sid:Nat} {jk:List V} {hs:List EH} (h:Stx T z L nx F p els sid jk hs) (hle:nx≤nx'):Stx T z L nx' F p els sid jk hs :=
 ⟨h.foot,h.map,h.box,h.stk,h.at_,h.live,h.nodup,fun i hi=>Nat.lt_of_lt_of_le (h.lt i hi) hle,h.ok⟩
theorem Stk.grow {T:Nat→Nat} {z:Bool} {L L':Heap} {nx nx':Nat} {F:List Nat} {p:Nat} {els:List El} (h:Stk T z L nx F p els) (hle:nx≤nx') (hL:∀ i,i<nx→L' i=L i):Stk T z L' nx' F p els:=by
 obtain ⟨sid,jk,hs,h⟩:=h
 have hF:=h.foot
 have e:∀ i,i∈F→L' i=L i:=fun i hi=>hL i (h.lt i hi)
 refine ⟨sid,jk,hs,h.foot,h.map,?_,?_,fun x hx=>(h.at_ x hx).frame fun i hi=>e i ?_,h.live,h.nodup,fun i hi=>Nat.lt_of_lt_of_le (h.lt i hi) hle,h.ok⟩
 ·rw [e p (by rw [hF]; simp)]; exact h.box
 ·rw [e sid (by rw [hF]; simp)]; exact h.stk
 ·rw [hF]; exact List.mem_cons_of_mem _ (List.mem_cons_of_mem _ (List.mem_flatMap.2 ⟨x,hx,hi⟩))
theorem Stx.topx {T:Nat→Nat} {z z':Bool} {L L':Heap} {nx nx':Nat} {F:List Nat} {p:Nat} {els:List El} {sid:Nat} {jk:List V} {h h':EH} {t:List EH} (hp:Stx T z L nx F p els sid jk (h::t))
 (hfr:∀ i,i<nx→i∉h.fp→L' i=L i) (hat:At T L' h') (hlive:z'=false→h'.live) (hid:h'.id=h.id) (hnd:h'.fp.Nodup) (hsub:∀ i,i∈h'.fp→i∈h.fp∨nx≤i) (hlt:∀ i,i∈h'.fp→i<nx') (hle:nx≤nx') (hok:h'.e.ok) :
 ∃ F',Stx T z' L' nx' F' p (h'.e::t.map EH.e) sid jk (h'::t)∧Stp L nx F L' nx' F':=by
 have hF:=hp.foot
 have hn:=hp.nodup
 rw [hF] at hn
 simp only [List.flatMap_cons,List.nodup_cons,List.mem_cons,List.mem_append,not_or,List.nodup_append] at hn
 obtain ⟨⟨n1,n2,n3⟩,⟨n4,n5⟩,n6,n7,n8⟩:=hn
 have lt:=hp.lt
 rw [hF] at lt
 simp only [List.flatMap_cons,List.mem_cons,List.mem_append] at lt
 refine ⟨p::sid::(h'::t).flatMap EH.fp,⟨rfl,rfl,?_,?_,?_,?_,?_,?_,?_⟩,hle,?_,?_⟩
 ·rw [hfr p (lt p (.inl rfl)) n2]; exact hp.box
 ·rw [hfr sid (lt sid (.inr (.inl rfl))) n4]
  have:=hp.stk
  simp only [List.reverse_cons,List.map_append,List.map_cons,List.map_nil,EH.pt] at this ⊢
  rw [hid]; exact this
 ·intro x hx
  rcases List.mem_cons.1 hx with rfl | hx
  ·exact hat
  ·refine (hp.at_ x (List.mem_cons_of_mem _ hx)).frame fun i hi=>?_
   have hm:i∈t.flatMap EH.fp:=List.mem_flatMap.2 ⟨x,hx,hi⟩
   exact hfr i (lt i (.inr (.inr (.inr hm)))) fun hc=>n8 i hc i hm rfl
 ·intro x hx
  have hl:=hp.live
  have rest:∀ y,y∈t→y.live:=fun y hy=>by
   cases z with
   | true=>exact hl y (by simpa using hy)
   | false=>exact hl y (by simp [hy])
  cases z' with
  | true=>exact rest x (by simpa using hx)
  | false =>
    rcases List.mem_cons.1 (by simpa using hx) with rfl | hx
    ·exact hlive rfl
    ·exact rest x hx
 ·simp only [List.flatMap_cons,List.nodup_cons,List.mem_cons,List.mem_append,not_or,List.nodup_append]
  have fresh:∀ i,i<nx→i∉h.fp→i∉h'.fp:=fun i h1 h2 h3=>(hsub i h3).elim h2 fun h=>absurd h1 (Nat.not_lt.2 h)
  exact ⟨⟨n1,fresh p (lt p (.inl rfl)) n2,n3⟩,⟨fresh sid (lt sid (.inr (.inl rfl))) n4,n5⟩,hnd,n7,fun a ha b hb e=>by
   subst e
   exact (hsub a ha).elim (fun h=>n8 a h a hb rfl) fun h=>absurd (lt a (.inr (.inr (.inr hb)))) (Nat.not_lt.2 h)⟩
 ·intro i hi
  simp only [List.flatMap_cons,List.mem_cons,List.mem_append] at hi
  rcases hi with rfl | rfl | hi | hi
  ·exact Nat.lt_of_lt_of_le (lt i (.inl rfl)) hle
  ·exact Nat.lt_of_lt_of_le (lt i (.inr (.inl rfl))) hle
  ·exact hlt i hi
  ·exact Nat.lt_of_lt_of_le (lt i (.inr (.inr (.inr hi)))) hle
 ·intro e he
  rcases List.mem_cons.1 he with rfl | he
  ·exact hok
  ·refine hp.ok e ?_
   rw [← hp.map]; simp only [List.map_cons,List.mem_cons]; exact .inr he
 ·intro i hi
  rw [hF]
  simp only [List.flatMap_cons,List.mem_cons,List.mem_append] at hi ⊢
  rcases hi with rfl | rfl | hi | hi
  ·exact .inl (.inl rfl)
  ·exact .inl (.inr (.inl rfl))
  ·exact (hsub i hi).elim (fun h=>.inl (.inr (.inr (.inl h)))) .inr
  ·exact .inl (.inr (.inr (.inr hi)))
 ·intro i ty cs h1 h2 h3 _
  rw [hfr i h1 fun hc=>h2 (by rw [hF]; simp [hc])]; exact h3
theorem Stx.top {T:Nat→Nat} {z z':Bool} {L L':Heap} {nx nx':Nat} {F:List Nat} {p:Nat} {els:List El} {sid:Nat} {jk:List V} {h h':EH} {t:List EH} (hp:Stx T z L nx F p els sid jk (h::t))
 (hfr:∀ i,i<nx→i∉h.fp→L' i=L i) (hat:At T L' h') (hlive:z'=false→h'.live) (hid:h'.id=h.id) (hnd:h'.fp.Nodup) (hsub:∀ i,i∈h'.fp→i∈h.fp∨nx≤i) (hlt:∀ i,i∈h'.fp→i<nx') (hle:nx≤nx') (hok:h'.e.ok) :
 ∃ F',Stk T z' L' nx' F' p (h'.e::t.map EH.e)∧Stp L nx F L' nx' F':=by
 obtain ⟨F',h1,h2⟩:=hp.topx hfr hat hlive hid hnd hsub hlt hle hok
 exact ⟨F',⟨_,_,_,h1⟩,h2⟩
def V.keep:V→Bool
 | .ptr _ _ | .eptr _ _ _=>true
 | v=>v.imm
theorem bH8 {id:Nat} {es:List V} {x:V} (h:x.keep=true):x.fz id es=x:=by
 cases x <;> first | rfl | exact aK7 _ _ _ h
theorem aO4 {z len id:Nat} {es:List V} {v:V} {o:Option Nat} (hv:v.imm=true) (ho:∀ i,o=some i→i≠id):(lvO z len v o).fz id es=lvO z len v o:=by
 cases o with
 | none=>exact aK7 _ _ _ hv
 | some i=>simp [lvO,V.fz,ho i rfl]
theorem aSl {vv:V} {id:Nat} {es:List V} (l:List Arg):V.fzL id es (vasO vv l)=vasO (vv.fz id es) l:=by
 rcases List.eq_nil_or_concat l with rfl | ⟨i,a,rfl⟩
 ·rfl
 ·rw [List.concat_eq_append,aDi,aDi,aBx,List.map_append,← aBx,aDo _ _ _ (aFu i)]
  simp [V.fz,V.fzL,aK7 _ _ _ (show (ln 5 (vns a.nm)).imm=true by simp [aF8,aBn])]
theorem At.fz {T:Nat→Nat} {L:Heap} {h:EH} {id:Nat} {es:List V} (ha:At T L h) (hi:id∉h.fp):At T (aBr id es L) h:=by
 have ne:∀ i,i∈h.fp→i≠id:=fun i h1 e=>hi (e ▸ h1)
 have nl:∀ i,h.li=some i→i≠id:=fun i e=>ne i (by simp [EH.fp,e])
 have na:∀ i,h.ai=some i→i≠id:=fun i e=>ne i (by simp [EH.fp,e])
 have nv:∀ i,h.vi=some i→i≠id:=fun i e=>ne i (by simp [EH.fp,e])
 have i1:(ln 5 (vns h.e.list)).imm=true:=by simp [aF8,aBn]
 have i2:(ln 3 (vas h.e.args)).imm=true:=by simp [aF8,aFu]
 have i3:(ln 5 (vns (aCh h.e.args))).imm=true:=by simp [aF8,aBn]
 refine ⟨?_,fun i hh=>⟨?_,(ha.li i hh).2⟩,fun i hh=>⟨?_,(ha.ai i hh).2⟩,fun i hh=>⟨?_,(ha.vi i hh).2⟩⟩
 ·simp only [aBr,ne _ (show h.id∈h.fp by simp [EH.fp]),if_false,ha.box,Option.map_some,Blk.fz,EH.cells,V.fzL,V.fz,EH.lv,EH.av,aO4 i1 nl,aO4 i2 na]
 ·simp only [aBr,nl i hh,if_false,(ha.li i hh).1,Option.map_some,Blk.fz,aDo _ _ _ (aBn _)]
 ·simp only [aBr,na i hh,if_false,(ha.ai i hh).1,Option.map_some,Blk.fz,aSl,EH.vv,aO4 i3 nv]
 ·simp only [aBr,nv i hh,if_false,(ha.vi i hh).1,Option.map_some,Blk.fz,aDo _ _ _ (aBn _)]
theorem Stx.fz {T:Nat→Nat} {z:Bool} {L:Heap} {nx:Nat} {F:List Nat} {p:Nat} {els:List El} {sid:Nat} {jk:List V} {h h':EH} {t:List EH} {id:Nat} {es:List V} (hp:Stx T z L nx F p els sid jk (h::t))
 (hid:id∈h.fp) (hat:At T (aBr id es L) h') (heq:h'.e=h.e) (hid':h'.id=h.id) (hsub:h'.fp.Sublist h.fp) :
 ∃ F' jk',Stx T true (aBr id es L) nx F' p els sid jk' (h'::t)∧Stp L nx F (aBr id es L) nx F':=by
 have hF:=hp.foot
 have hn:=hp.nodup
 rw [hF] at hn
 have hn':=hn
 simp only [List.flatMap_cons,List.nodup_cons,List.mem_cons,List.mem_append,not_or,List.nodup_append] at hn
 obtain ⟨⟨n1,n2,n3⟩,⟨n4,n5⟩,n6,n7,n8⟩:=hn
 have np:p≠id:=fun e=>n2 (e ▸ hid)
 have ns:sid≠id:=fun e=>n4 (e ▸ hid)
 have hss:(p::sid::(h'::t).flatMap EH.fp).Sublist F:=by
  rw [hF]
  simp only [List.flatMap_cons]
  exact ((hsub.append (List.Sublist.refl _)).cons_cons sid).cons_cons p
 refine ⟨p::sid::(h'::t).flatMap EH.fp,V.fzL id es jk,⟨rfl,?_,?_,?_,?_,?_,?_,?_,?_⟩,⟨Nat.le_refl _,?_,?_⟩⟩
 ·rw [← hp.map]; simp [heq]
 ·simp only [aBr,np,if_false,hp.box,Option.map_some,Blk.fz,V.fzL,V.fz,ns,false_and,List.length_cons]
 ·simp only [aBr,ns,if_false,hp.stk,Option.map_some,Blk.fz]
  rw [aBx,List.map_append,← aBx,← aBx]
  have:V.fzL id es (List.map EH.pt (h::t).reverse)=List.map EH.pt (h'::t).reverse:=by
   rw [aBx,List.map_map]
   simp only [List.reverse_cons,List.map_append,List.map_cons,List.map_nil,EH.pt,hid',Function.comp,V.fz]
   rw [List.append_left_inj]
   exact List.map_congr_left fun x _=>rfl
  rw [this]
 ·intro x hx
  rcases List.mem_cons.1 hx with rfl | hx
  ·exact hat
  ·exact (hp.at_ x (List.mem_cons_of_mem _ hx)).fz fun hc=>n8 id hid id (List.mem_flatMap.2 ⟨x,hx,hc⟩) rfl
 ·intro x hx
  have hl:=hp.live
  cases z with
  | true=>exact hl x hx
  | false=>exact hl x (by simp only [Bool.false_eq_true,if_false]; exact List.mem_cons_of_mem _ hx)
 ·rw [hF] at hss; exact hss.nodup hn'
 ·intro i hi; exact hp.lt i (hss.subset hi)
 ·exact hp.ok
 ·intro i hi; exact .inl (hss.subset hi)
 ·intro i ty cs h1 h2 h3 h4
  have:i≠id:=fun e=>h2 (by rw [hF]; subst e; simp [hid])
  simp only [aBr,this,if_false,h3,Option.map_some,Blk.fz,aDo _ _ _ h4]
structure FzT (T:Nat→Nat) (s:St) (F:List Nat) (p:Nat) (els:List El) (sid:Nat) (t:List EH) (h:EH) (s':St) (F':List Nat) (h':EH):Prop where
 fz:FzS s s'
 nx:s'.nx=s.nx
 env:∀ i,(s.env i).keep=true→s'.env i=s.env i
 st:∃ jk',Stx T true s'.L s.nx F' p els sid jk' (h'::t)
 e:h'.e=h.e
 id:h'.id=h.id
 stp:Stp s.L s.nx F s'.L s.nx F'
theorem FzS.trans {a b c:St} (h:FzS a b) (k:FzS b c):FzS a c:=by
 induction h with
 | refl s=>exact k
 | step id ty sz es hL hi hs ih=>exact .step id ty sz es hL hi (ih k)
 | up id ty cs cs' hL hn hw hs ih=>exact .up id ty cs cs' hL hn hw (ih k)
theorem FzT.trans {T:Nat→Nat} {s s' s'':St} {F F' F'':List Nat} {p:Nat} {els:List El} {sid:Nat} {t:List EH} {h h' h'':EH} (a:FzT T s F p els sid t h s' F' h') (b:FzT T s' F' p els sid t h' s'' F'' h''):FzT T s F p els sid t h s'' F'' h'':=by
 refine ⟨a.fz.trans b.fz,b.nx.trans a.nx,fun i hi=>?_,by have:=b.st; rw [a.nx] at this; exact this,b.e.trans a.e,b.id.trans a.id,a.stp.trans (by have:=b.stp; rw [a.nx] at this; exact this)⟩
 have e1:=a.env i hi
 have e2:=b.env i (by rw [e1]; exact hi)
 rw [e2,e1]
theorem Stx.thaw {T:Nat→Nat} {z:Bool} {L:Heap} {nx:Nat} {F:List Nat} {p:Nat} {els:List El} {sid:Nat} {jk:List V} {hs:List EH} (h:Stx T z L nx F p els sid jk hs):Stx T true L nx F p els sid jk hs :=
 ⟨h.foot,h.map,h.box,h.stk,h.at_,fun x hx=>by
  have hl:=h.live
  cases z with
  | true=>exact hl x hx
  | false=>exact hl x (by simp only [Bool.false_eq_true,if_false]; exact List.mem_of_mem_tail (by simpa using hx)),h.nodup,h.lt,h.ok⟩
theorem frz1 {T:Nat→Nat} {z:Bool} {s:St} {F:List Nat} {p:Nat} {els:List El} {sid:Nat} {jk:List V} {h h':EH} {t:List EH} {id ty sz:Nat} {es:List V} (hp:Stx T z s.L s.nx F p els sid jk (h::t))
 (hL:s.L id=some (.vec ty sz es)) (hi:V.imms es=true) (hid:id∈h.fp) (hat:At T (aBr id es s.L) h') (heq:h'.e=h.e) (hid':h'.id=h.id) (hsub:h'.fp.Sublist h.fp):∃ s' F',FzT T s F p els sid t h s' F' h':=by
 obtain ⟨F',jk',h1,h2⟩:=hp.fz hid hat heq hid' hsub
 exact ⟨s.fz id es,F',.step id ty sz es hL hi (.refl _),rfl,fun i hi=>bH8 hi,⟨jk',h1⟩,heq,hid',h2⟩
theorem frz0 {T:Nat→Nat} {z:Bool} {s:St} {F:List Nat} {p:Nat} {els:List El} {sid:Nat} {jk:List V} {h:EH} {t:List EH} (hp:Stx T z s.L s.nx F p els sid jk (h::t)):FzT T s F p els sid t h s F h :=
 ⟨.refl _,rfl,fun _ _=>rfl,⟨jk,hp.thaw⟩,rfl,rfl,Stp.refl _ _ _⟩
theorem bIk {i z:Nat} {es:List V} (h:es≠[]):(V.own i z 0 es.length).fz i es=ln z es:=by simp [V.fz,bG8 h]
theorem aC7 {α:Type} (o:Option α):o=none∨∃ i,o=some i:=by cases o with | none=>exact .inl rfl | some i=>exact .inr ⟨i,rfl⟩
theorem frzV {T:Nat→Nat} {z:Bool} {s:St} {F:List Nat} {p:Nat} {els:List El} {sid:Nat} {jk:List V} {h:EH} {t:List EH} (hp:Stx T z s.L s.nx F p els sid jk (h::t)):∃ s' F',FzT T s F p els sid t h s' F' { h with vi:=none }:=by
 have ha:=hp.at_ h (by simp)
 have hn:h.fp.Nodup:=by
  have:=hp.nodup
  rw [hp.foot] at this
  simp only [List.flatMap_cons,List.nodup_cons,List.nodup_append] at this
  exact this.2.2.1
 cases hv:h.vi with
 | none=>exact ⟨s,F,by have:=frz0 hp; rw [show ({ h with vi:=none }:EH)=h by cases h; simp_all]; exact this⟩
 | some i =>
   obtain ⟨v1,v2,v3⟩:=ha.vi i hv
   have hid:i∈h.fp:=by simp [EH.fp,hv]
   simp only [EH.fp,hv,Option.toList_some,List.nodup_cons,List.mem_append,List.mem_singleton,not_or,List.nodup_append,List.mem_cons,List.not_mem_nil,or_false] at hn
   obtain ⟨⟨⟨m1,m2⟩,m3⟩,_,_,m4⟩:=hn
   have e0:vns (aCh h.e.args)≠[]:=fun e=>v2 (by cases hl:aCh h.e.args with | nil=>rfl | cons x r=>rw [hl] at e; simp [vns] at e)
   have nl:∀ j,h.li=some j→j≠i:=fun j hj=>m4 j (.inl (by simp [hj])) i rfl
   have na:∀ j,h.ai=some j→j≠i:=fun j hj=>m4 j (.inr (by simp [hj])) i rfl
   have i1:(ln 5 (vns h.e.list)).imm=true:=by simp [aF8,aBn]
   have i2:(ln 3 (vas h.e.args)).imm=true:=by simp [aF8,aFu]
   refine frz1 hp v1 (aBn _) hid ⟨?_,fun j hj=>⟨?_,(ha.li j hj).2⟩,fun j hj=>⟨?_,(ha.ai j hj).2⟩,fun j hj=>by simp at hj⟩ rfl rfl (by simp [EH.fp])
   ·have:=ha.box
    simp only [aBr,m3,if_false,ha.box,Option.map_some,Blk.fz,EH.cells,V.fzL,V.fz,EH.lv,EH.av,aO4 i1 nl,aO4 i2 na]
   ·simp only [aBr,nl j hj,if_false,(ha.li j hj).1,Option.map_some,Blk.fz,aDo _ _ _ (aBn _)]
   ·simp only [aBr,na j hj,if_false,(ha.ai j hj).1,Option.map_some,Blk.fz,aSl,EH.vv,hv,lvO]
    have:=bIk (i:=i) (z:=5) e0
    rw [aBd] at this
    rw [this]
end Go.Ab
namespace Go.Ab
variable {P:Program} {F T:Nat→Nat}
theorem aEr {a b:List V} {x:V} {n:Nat} (h:n=a.length):(a++x::b).getD n .junk=x:=by
 subst h
 rw [List.getD_eq_getElem?_getD,List.getElem?_append_right (Nat.le_refl _)]; simp
theorem aLz {a b:List V} {x y:V} {n:Nat} (h:n=a.length):(a++x::b).set n y=a++y::b:=by
 subst h
 rw [List.set_append_right _ _ (Nat.le_refl _)]; simp
theorem Stx.rd {z:Bool} {L:Heap} {nx:Nat} {f:List Nat} {p:Nat} {els:List El} {sid:Nat} {jk:List V} {h:EH} {t:List EH} (hp:Stx T z L nx f p els sid jk (h::t)) :
 L p=some (.box (T 7) [.own sid 1 0 (t.length+1)])∧L sid=some (.vec (T 6) 1 (t.reverse.map EH.pt++V.ptr h.id 0::jk))∧p<nx∧sid<nx∧h.id<nx∧p≠sid∧p≠h.id∧sid≠h.id∧els=h.e::t.map EH.e:=by
 have hF:=hp.foot
 have hn:=hp.nodup
 rw [hF] at hn
 simp only [List.flatMap_cons,List.nodup_cons,List.mem_cons,List.mem_append,not_or,EH.fp] at hn
 have lt:=hp.lt
 rw [hF] at lt
 refine ⟨by have:=hp.box; simpa using this,by have:=hp.stk; simpa [EH.pt] using this,lt p (by simp),lt sid (by simp),lt h.id (by simp [EH.fp]),hn.1.1,?_,?_,by rw [← hp.map]; rfl⟩
 ·exact hn.1.2.1.1
 ·exact hn.2.1.1.1
theorem t59 (hf:Is59 P F T) {z:Bool} {L:Heap} {nx:Nat} {f:List Nat} {p:Nat} {els:List El} {sid:Nat} {jk:List V} {h:EH} {t:List EH} (hp:Stx T z L nx f p els sid jk (h::t)) (hlen:t.length<2^32) :
 ECall P (F 59) [.ptr p 0] L nx fun r L' nx'=>r=.ptr h.id 0∧L'=L∧nx≤nx':=by
 obtain ⟨h1,h2,h3,h4,h5,h6,h7,h8,_⟩:=hp.rd
 refine aCo [] hf (by simp) ?_
 have e1:((t.length:Nat):Int)+1-1=(t.length:Nat):=by omega
 have e2:(List.map EH.pt t.reverse++V.ptr h.id 0::jk).getD t.length .junk=.ptr h.id 0:=aEr (by simp)
 simp only [c59,push_cast,seval,-Nat.reducePow,h1,h2,e1,e2,aOj]
 exact ⟨by omega,by omega,by simp,by omega,by omega⟩
def EH.cur (h:EH):V:=match h.ai with
 | some i=>if h.e.kind=3 then .eptr i (h.e.args.length-1) 2 else .ptr h.id 3
 | none=>.ptr h.id 3
theorem t106 (hf:aT8 P F T) {L:Heap} {nx:Nat} {h:EH} (ha:At T L h) (hl:h.live) (hlen:h.e.args.length<2^32) :
 ECall P (F 106) [.ptr h.id 0] L nx fun r L' nx'=>r=h.cur∧L'=L∧nx≤nx':=by
 refine aCo [] hf (by simp) ?_
 have hb:=ha.box
 rcases aC7 h.ai with hv | ⟨i,hv⟩
 ·have h0:=hl.ai hv
  simp only [c106,push_cast,seval,-Nat.reducePow,hb,EH.cells,EH.av,EH.lv,hv,lvO,h0,vas,ln]
  refine aAk (fun hk=>?_) (fun hk=>?_)
  ·simp only [push_cast,seval,-Nat.reducePow]
   exact ⟨by omega,by simp [EH.cur,hv],by omega⟩
  ·simp only [push_cast,seval,-Nat.reducePow]
   exact ⟨by omega,by simp [EH.cur,hv],by omega⟩
 ·have hne:=(ha.ai i hv).2
  have hpos:0<h.e.args.length:=List.length_pos_iff.2 hne
  simp only [c106,push_cast,seval,-Nat.reducePow,hb,EH.cells,EH.av,EH.lv,hv,lvO]
  refine aAk (fun hk=>?_) (fun hk=>?_)
  ·have e1:((h.e.args.length:Nat):Int)-1=((h.e.args.length-1:Nat):Nat):=by omega
   have e3:(0:Int)<((h.e.args.length:Nat):Int):=by omega
   have hk':h.e.kind=3:=by omega
   simp only [push_cast,seval,-Nat.reducePow,e1,e3,hv,hb,EH.cells,EH.av,EH.lv,lvO]
   exact ⟨by omega,by omega,by omega,by simp [EH.cur,hv,hk'],by omega⟩
  ·have hk':h.e.kind≠3:=by omega
   simp only [push_cast,seval,-Nat.reducePow]
   exact ⟨by omega,by simp [EH.cur,hv,hk'],by omega⟩
def Did (T:Nat→Nat) (L:Heap) (nx:Nat) (f:List Nat) (p:Nat) (els:List El):V→Heap→Nat→Prop:=fun _ L' nx'=>∃ f',Stk T false L' nx' f' p els∧Stp L nx f L' nx' f'
theorem bC0 (l:List Node):addN (tx []) l=l:=rfl
theorem aXy (l:List Arg) {g:Arg→Arg} (h:∀ a,g a=a):aKc g l=l:=by
 rcases List.eq_nil_or_concat l with rfl | ⟨i,a,rfl⟩
 ·rfl
 ·rw [List.concat_eq_append,aCq,h]
theorem El.add_nil (e:El):e.add (tx [])=e:=by
 obtain ⟨k,t,c,l,a⟩:=e
 simp only [El.add,bC0]
 split
 ·simp only [El.mk.injEq,true_and]
  exact aXy a fun a=>by obtain ⟨b,n,v⟩:=a; rfl
 ·rfl
theorem bDf (els:List El):addS (tx []) els=els:=by cases els with | nil=>rfl | cons e r=>simp [addS,El.add_nil]
theorem aZ1 (els:List El):30*els.length≤pot els:=by
 induction els with
 | nil=>simp [pot]
 | cons e r ih=>simp [pot,El.pot]; omega
def El.isA (e:El):Prop:=e.kind=3∧e.args≠[]
instance (e:El):Decidable e.isA:=inferInstanceAs (Decidable (_∧_))
def El.cur (e:El):List Node:=if e.isA then aCh e.args else e.list
def El.setCur (ns:List Node) (e:El):El:=if e.isA then { e with args:=aKc (fun a=>a.setVal ns) e.args } else { e with list:=ns }
theorem El.add_cur (n:Node) (e:El):e.add n=e.setCur (addN n e.cur):=by
 by_cases h:e.isA
 ·have h':e.kind=3∧e.args≠[]:=h
  simp only [El.add,El.setCur,El.cur,if_pos h,if_pos h',El.mk.injEq,true_and]
  rcases List.eq_nil_or_concat e.args with h0 | ⟨i,a,h0⟩
  ·rw [h0]; rfl
  ·rw [h0,List.concat_eq_append,aCq,aCq,aAz]
 ·have h':¬ (e.kind=3∧e.args≠[]):=h
  simp only [El.add,El.setCur,El.cur,if_neg h,if_neg h']
structure Slot (T:Nat→Nat) (L:Heap) (nx:Nat) (f:List Nat) (p:Nat) (t:List El) (e:El) (cv:V) (b:Nat) (mk:V→Blk) (vi:Option Nat):Prop where
 blt:b<nx
 at_:L b=some (mk (lvO 5 e.cur.length .nils vi))
 nil:vi=none→e.cur=[]
 own:∀ i,vi=some i→L i=some (.vec (T 0) 5 (vns e.cur))∧e.cur≠[]∧i≠b∧i<nx
 tn:tns e.cur
 pot:aA4 e.cur≤e.pot
 nchk:∀ (d:Option Nat) (s:St) (K:St→Prop),aEj d cv s K=K (s.setO d cv)
 load:∀ (d:Option Nat) (s:St) (K:St→Prop) (w:V),w.cells=[w]→s.L b=some (mk w)→aFi d false 1 false cv s K=K (s.setO d w)
 store:∀ (s:St) (K:St→Prop) (v w:V),w.ncells=some 1→w.cells=[w]→v.cells=[v]→s.L b=some (mk v)→aDs 1 w cv s K=K (s.put b (mk w))
 idq:∀ n,idq false n cv=(b<n)
 fin:∀ (L':Heap) (nx':Nat) (ns:List Node) (j:Nat),(vi=some j∨nx≤j)→L' j=some (.vec (T 0) 5 (vns ns))→ns≠[]→tns ns→L' b=some (mk (.own j 5 0 ns.length))→(∀ i,i<nx→i≠b→vi≠some i→L' i=L i)→nx≤nx'→j<nx' →
  ∃ f',Stk T false L' nx' f' p (e.setCur ns::t)∧Stp L nx f L' nx' f'
theorem slot {L:Heap} {nx:Nat} {f:List Nat} {p:Nat} {els:List El} {sid:Nat} {jk:List V} {h:EH} {t:List EH} (hp:Stx T false L nx f p els sid jk (h::t)) :
 ∃ b mk vi,Slot T L nx f p (t.map EH.e) h.e h.cur b mk vi:=by
 have hat:=hp.at_ h (by simp)
 have hlv:h.live:=hp.live h (by simp)
 have hok:h.e.ok:=hp.ok _ (by rw [← hp.map]; simp)
 have hlt:∀ i,i∈h.fp→i<nx:=fun i hi=>hp.lt i (by rw [hp.foot]; simp [hi])
 have hn:h.fp.Nodup:=by
  have:=hp.nodup
  rw [hp.foot] at this
  simp only [List.flatMap_cons,List.nodup_cons,List.nodup_append] at this
  exact this.2.2.1
 simp only [EH.fp,List.nodup_cons,List.mem_append,not_or,List.nodup_append] at hn
 obtain ⟨⟨⟨m1,m2⟩,m3⟩,⟨m4,m5,m6⟩,m7,m8⟩:=hn
 have nel:∀ i,h.li=some i→i≠h.id:=fun i hi e=>m1 (by simp [hi,e])
 have nea:∀ i,h.ai=some i→i≠h.id:=fun i hi e=>m2 (by simp [hi,e])
 have nev:∀ i,h.vi=some i→i≠h.id:=fun i hi e=>m3 (by simp [hi,e])
 have nla:∀ i j,h.li=some i→h.ai=some j→i≠j:=fun i j hi hj=>m6 i (by simp [hi]) j (by simp [hj])
 have nlv:∀ i j,h.li=some i→h.vi=some j→i≠j:=fun i j hi hj=>m8 i (.inl (by simp [hi])) j (by simp [hj])
 have nav:∀ i j,h.ai=some i→h.vi=some j→i≠j:=fun i j hi hj=>m8 i (.inr (by simp [hi])) j (by simp [hj])
 have tli:∀ i,h.li=some i→i<nx:=fun i hi=>hlt i (by simp [EH.fp,hi])
 have tai:∀ i,h.ai=some i→i<nx:=fun i hi=>hlt i (by simp [EH.fp,hi])
 have tvi:∀ i,h.vi=some i→i<nx:=fun i hi=>hlt i (by simp [EH.fp,hi])
 have tid:h.id<nx:=hlt _ (by simp [EH.fp])
 by_cases hA:h.e.isA
 ·obtain ⟨hk,hne⟩:=hA
  obtain ⟨ia,hv⟩:∃ i,h.ai=some i:=(aC7 h.ai).elim (fun e=>absurd (hlv.ai e) hne) id
  obtain ⟨i,a,ha⟩:∃ i a,h.e.args=i++[a]:=by
   rcases List.eq_nil_or_concat h.e.args with h0 | ⟨i,a,h0⟩
   ·exact absurd h0 hne
   ·exact ⟨i,a,by rw [h0,List.concat_eq_append]⟩
  have hA:h.e.isA:=⟨hk,hne⟩
  have ecur:h.e.cur=a.val:=by simp only [El.cur,hA,if_true,ha,aAz]
  have eset:∀ ns,h.e.setCur ns={ h.e with args:=i++[a.setVal ns] }:=fun ns=>by simp only [El.setCur,hA,if_true,ha,aCq]
  have ecv:h.cur=.eptr ia i.length 2:=by simp [EH.cur,hv,hk,ha]
  have hain:=hat.ai ia hv
  have evv:h.vv=lvO 5 a.val.length .nils h.vi:=by
   simp only [EH.vv,ha,aAz]
   rcases aC7 h.vi with e | ⟨j,e⟩
   ·have:=hlv.vi e; rw [ha,aAz] at this; simp [e,lvO,this,vns,ln]
   ·simp [e,lvO]
  rw [ha,aDi] at hain
  have hokA:=hok.args a (by rw [ha]; simp)
  refine ⟨ia,fun w=>.vec (T 1) 3 (vas i++[.agg [.bool a.named,ln 5 (vns a.nm),w]]),h.vi,⟨tai ia hv,?_,?_,?_,?_,?_,?_,?_,?_,?_,?_⟩⟩
  ·rw [ecur,← evv]; exact hain.1
  ·intro e; rw [ecur]; have:=hlv.vi e; rwa [ha,aAz] at this
  ·intro j hj
   obtain ⟨q1,q2,_⟩:=hat.vi j hj
   rw [ha,aAz] at q1 q2
   rw [ecur]
   exact ⟨q1,q2,fun e=>nav ia j hv hj e.symm,tvi j hj⟩
  ·rw [ecur]; exact hokA.2
  ·rw [ecur]; simp only [El.pot,ha,aC8]
   obtain ⟨b,n,v⟩:=a
   simp only [aCl,Arg.bulk,Arg.val]; omega
  ·intro d s K; rw [ecv]; simp only [push_cast,seval,-Nat.reducePow]
  ·intro d s K w hw hs
   rw [ecv]
   have e2:(vas i++V.agg [.bool a.named,ln 5 (vns a.nm),w]::[]).getD i.length .junk=V.agg [.bool a.named,ln 5 (vns a.nm),w]:=aEr (by simp [aBt])
   have e3:i.length<(vas i++[V.agg [.bool a.named,ln 5 (vns a.nm),w]]).length:=by simp [aBt]
   simp only [push_cast,seval,-Nat.reducePow,hs,e2,e3]
  ·intro s K v w h1 h2 h2' h3
   rw [ecv]
   have e2:(vas i++V.agg [.bool a.named,ln 5 (vns a.nm),v]::[]).getD i.length .junk=V.agg [.bool a.named,ln 5 (vns a.nm),v]:=aEr (by simp [aBt])
   have e3:i.length<(vas i++[V.agg [.bool a.named,ln 5 (vns a.nm),v]]).length:=by simp [aBt]
   have e4:∀ y,(vas i++V.agg [.bool a.named,ln 5 (vns a.nm),v]::[]).set i.length y=vas i++y::[]:=fun y=>aLz (by simp [aBt])
   simp only [push_cast,seval,-Nat.reducePow,h3,e2,e3,h1,h2,e4,aLo]
  ·intro n; rw [ecv]; simp only [push_cast,seval,-Nat.reducePow]
  ·intro L' nx' ns j hj h1 h2 h3 h4 h5 h6 h7
   rw [eset]
   have hj':∀ x,x<nx→h.vi≠some x→j≠x:=fun x hx hn e=>hj.elim (fun k=>hn (e ▸ k)) fun k=>by omega
   refine hp.top (h':=⟨{ h.e with args:=i++[a.setVal ns] },h.id,h.li,some ia,some j⟩) (fun x hx hn=>h5 x hx (fun e=>hn (by simp [EH.fp,hv,e])) fun e=>hn (by simp [EH.fp,e])) ⟨?_,?_,?_,?_⟩ (fun _=>⟨hlv.li,fun e=>by simp at e,fun e=>by simp at e⟩) rfl ?_ ?_ ?_ h6 ?_
   ·rw [h5 _ tid (fun e=>nea ia hv e.symm) fun e=>nev _ e rfl,hat.box]
    simp [EH.cells,EH.lv,EH.av,hv,lvO,ha]
   ·intro x hx
    rw [h5 x (tli x hx) (nla x ia hx hv) fun e=>nlv x x hx e rfl]
    exact hat.li x hx
   ·intro x hx
    simp only [Option.some.injEq] at hx
    subst hx
    refine ⟨?_,by simp⟩
    rw [h4,aDi]
    simp only [EH.vv,aAz,lvO]
    obtain ⟨b,n,v⟩:=a
    rfl
   ·intro x hx
    simp only [Option.some.injEq] at hx
    subst hx
    obtain ⟨b,n,v⟩:=a
    simp only [aAz,Arg.setVal,Arg.val]
    exact ⟨h1,h2,by simp⟩
   ·simp only [EH.fp,List.nodup_cons,List.mem_append,not_or,List.nodup_append,Option.toList_some,List.mem_singleton,List.not_mem_nil,not_false_eq_true,List.nodup_nil,and_true,true_and]
    refine ⟨⟨⟨m1,fun e=>nea ia hv e.symm⟩,fun e=>?_⟩,⟨m4,?_⟩,?_⟩
    ·exact hj' h.id tid (fun e=>nev _ e rfl) e.symm
    ·intro x hx b hb
     subst hb
     have:h.li=some x:=by simpa using hx
     exact nla x b this hv
    ·intro x hx b hb
     subst hb
     rcases hx with hx | rfl
     ·have hx:h.li=some x:=by simpa using hx
      exact fun e=>hj' x (tli x hx) (fun e=>nlv x x hx e rfl) e.symm
     ·exact fun e=>hj' x (tai x hv) (fun e=>nav x x hv e rfl) e.symm
   ·intro x hx
    simp only [EH.fp,List.mem_cons,List.mem_append,Option.toList_some,List.not_mem_nil,or_false] at hx
    rcases hx with rfl | ((hx | rfl) | rfl)
    ·exact .inl (by simp [EH.fp])
    ·exact .inl (by simp [EH.fp,hx])
    ·exact .inl (by simp [EH.fp,hv])
    ·exact hj.elim (fun e=>.inl (by simp [EH.fp,e])) .inr
   ·intro x hx
    simp only [EH.fp,List.mem_cons,List.mem_append,Option.toList_some,List.not_mem_nil,or_false] at hx
    rcases hx with rfl | ((hx | rfl) | rfl)
    ·omega
    ·have:=tli x (by simpa using hx); omega
    ·have:=tai x hv; omega
    ·exact h7
   ·refine ⟨hok.tag,hok.list,fun b hb=>?_⟩
    rcases List.mem_append.1 hb with hb | hb
    ·exact hok.args b (by rw [ha]; exact List.mem_append_left _ hb)
    ·simp only [List.mem_singleton] at hb
     subst hb
     obtain ⟨b,n,v⟩:=a
     exact ⟨hokA.1,h3⟩
 ·have ecur:h.e.cur=h.e.list:=by simp only [El.cur,hA,if_false]
  have eset:∀ ns,h.e.setCur ns={ h.e with list:=ns }:=fun ns=>by simp only [El.setCur,hA,if_false]
  have ecv:h.cur=.ptr h.id 3:=by
   simp only [EH.cur]
   rcases aC7 h.ai with e | ⟨j,e⟩
   ·simp [e]
   ·simp only [e]
    rw [if_neg fun hk=>hA ⟨hk,(hat.ai j e).2⟩]
  have elv:h.lv=lvO 5 h.e.list.length .nils h.li:=by
   simp only [EH.lv]
   rcases aC7 h.li with e | ⟨j,e⟩
   ·have:=hlv.li e; simp [e,lvO,this,vns,ln]
   ·simp [e,lvO]
  refine ⟨h.id,fun w=>.box (T 5) [.int .i64 h.e.kind,.int .i64 h.e.tag,.int .i64 h.e.count,w,h.av],h.li,⟨tid,?_,?_,?_,?_,?_,?_,?_,?_,?_,?_⟩⟩
  ·rw [ecur,← elv]; exact hat.box
  ·intro e; rw [ecur]; exact hlv.li e
  ·intro j hj
   obtain ⟨q1,q2⟩:=hat.li j hj
   rw [ecur]
   exact ⟨q1,q2,nel j hj,tli j hj⟩
  ·rw [ecur]; exact hok.list
  ·rw [ecur]; simp only [El.pot]; omega
  ·intro d s K; rw [ecv]; simp only [push_cast,seval,-Nat.reducePow]
  ·intro d s K w hw hs; rw [ecv]; simp only [push_cast,seval,-Nat.reducePow,hs]
  ·intro s K v w h1 h2 h2' h3
   rw [ecv]
   simp only [push_cast,seval,-Nat.reducePow,h3,h1,h2]
  ·intro n; rw [ecv]; simp only [push_cast,seval,-Nat.reducePow]
  ·intro L' nx' ns j hj h1 h2 h3 h4 h5 h6 h7
   rw [eset]
   have hj':∀ x,x<nx→h.li≠some x→j≠x:=fun x hx hn e=>hj.elim (fun k=>hn (e ▸ k)) fun k=>by omega
   refine hp.top (h':=⟨{ h.e with list:=ns },h.id,some j,h.ai,h.vi⟩) (fun x hx hn=>h5 x hx (fun e=>hn (by simp [EH.fp,e])) fun e=>hn (by simp [EH.fp,e])) ⟨?_,?_,?_,?_⟩ (fun _=>⟨fun e=>by simp at e,hlv.ai,hlv.vi⟩) rfl ?_ ?_ ?_ h6 ?_
   ·rw [h4]
    simp [EH.cells,EH.lv,EH.av,lvO]
   ·intro x hx
    simp only [Option.some.injEq] at hx
    subst hx
    exact ⟨h1,h2⟩
   ·intro x hx
    rw [h5 x (tai x hx) (nea x hx) fun e=>nla x x e hx rfl]
    exact hat.ai x hx
   ·intro x hx
    rw [h5 x (tvi x hx) (nev x hx) fun e=>nlv x x e hx rfl]
    exact hat.vi x hx
   ·simp only [EH.fp,List.nodup_cons,List.mem_append,not_or,List.nodup_append,Option.toList_some,List.mem_singleton,List.not_mem_nil,not_false_eq_true,List.nodup_nil,and_true,true_and]
    refine ⟨⟨⟨fun e=>?_,m2⟩,m3⟩,⟨m5,?_⟩,m7,?_⟩
    ·exact hj' h.id tid (fun e=>nel _ e rfl) e.symm
    ·intro x hx b hb
     subst hx
     have hb:h.ai=some b:=by simpa using hb
     exact hj' b (tai b hb) fun e=>nla b b e hb rfl
    ·intro x hx b hb
     have hb:h.vi=some b:=by simpa using hb
     rcases hx with rfl | hx
     ·exact hj' b (tvi b hb) fun e=>nlv b b e hb rfl
     ·have hx:h.ai=some x:=by simpa using hx
      exact nav x b hx hb
   ·intro x hx
    simp only [EH.fp,List.mem_cons,List.mem_append,Option.toList_some,List.not_mem_nil,or_false] at hx
    rcases hx with rfl | ((rfl | hx) | hx)
    ·exact .inl (by simp [EH.fp])
    ·exact hj.elim (fun e=>.inl (by simp [EH.fp,e])) .inr
    ·exact .inl (by simp [EH.fp,hx])
    ·exact .inl (by simp [EH.fp,hx])
   ·intro x hx
    simp only [EH.fp,List.mem_cons,List.mem_append,Option.toList_some,List.not_mem_nil,or_false] at hx
    rcases hx with rfl | ((rfl | hx) | hx)
    ·omega
    ·exact h7
    ·have:=tai x (by simpa using hx); omega
    ·have:=tvi x (by simpa using hx); omega
   ·exact ⟨hok.tag,h3,hok.args⟩
theorem Did.of {L0 L L':Heap} {nx0 nx nx':Nat} {f:List Nat} {p:Nat} {els:List El} {r:V} (h:Stp L0 nx0 f L nx f) (k:∃ f',Stk T false L' nx' f' p els∧Stp L nx f L' nx' f'):Did T L0 nx0 f p els r L' nx':=by
 obtain ⟨f',k1,k2⟩:=k
 exact ⟨f',k1,h.trans k2⟩
theorem bC8 {s:List UInt8} (h:s≠[]):addN (tx s) []=[tx s]:=by simp [addN,tx,Node.kind,Node.text,h,aB7]
theorem bDj {s:List UInt8} {i:List Node} {x:Node} (h:s≠[]) (hx:x.kind≠1):addN (tx s) (i++[x])=i++[x]++[tx s]:=by
 obtain ⟨k,t,q,ks,as⟩:=x
 have hx':¬ (k=1):=hx
 simp [addN,tx,Node.kind,Node.text,h,aB7,hx']
theorem bAy {s:List UInt8} {i:List Node} {t:Int} {q:List UInt8} {ks:List Node} {as:List Arg} (h:s≠[]):addN (tx s) (i++[.mk 1 t q ks as])=i++[tx (q++s)]:=by
 simp [addN,tx,Node.kind,Node.text,h,aB7]
theorem aF7 {f:Heap} {i:Nat} {b:Option Blk} {j:Nat}:(upd f i b) j=if j=i then b else f j:=rfl
theorem t69 (hf:Is69 P F T) (h59:Is59 P F T) (h106:aT8 P F T) {L:Heap} {nx:Nat} {f:List Nat} {p:Nat} {els:List El} (hs:Stk T false L nx f p els) (s:List UInt8) (hb:pot els+s.length+1≤2^30) (hne:els≠[]) :
 ECall P (F 69) [.ptr p 0,.str s] L nx (Did T L nx f p (addS (tx s) els)):=by
 obtain ⟨sid,jk,hs,hp⟩:=hs
 obtain ⟨h,t,rfl⟩:∃ h t,hs=h::t:=by
  cases hs with
  | nil=>exact absurd hp.map.symm hne
  | cons h t=>exact ⟨h,t,rfl⟩
 have hlen:=aZ1 els
 obtain ⟨r1,r2,r3,r4,r5,r6,r7,r8,r9⟩:=hp.rd
 refine aCo [] hf (by simp) ?_
 simp only [c69,push_cast,seval,-Nat.reducePow]
 refine aAk (fun h0=>?_) (fun h0=>?_)
 ·subst h0
  simp only [push_cast,seval,-Nat.reducePow]
  exact ⟨by omega,f,by rw [bDf]; exact (Stk.grow ⟨_,_,_,hp⟩ (by omega) fun _ _=>rfl),Stp.grow (by omega) fun _ _=>rfl⟩
 ·have hl1:t.length<2^32:=by
   have:els.length=t.length+1:=by rw [r9]; simp
   omega
  have hat:=hp.at_ h (by simp)
  have hlv:h.live:=hp.live h (by simp)
  have hpe:h.e.pot≤pot els:=by rw [r9]; simp [pot]
  have hpe':=hpe
  simp only [El.pot] at hpe
  simp only [push_cast,seval,-Nat.reducePow]
  refine aAc (t59 h59 (hp.grow (by omega)) hl1) ?_
  rintro _ _ n1 ⟨rfl,rfl,hn1⟩
  try simp only [push_cast,seval,-Nat.reducePow]
  refine aAc (t106 h106 hat hlv (by omega)) ?_
  rintro _ L n2 ⟨rfl,rfl,hn2⟩
  obtain ⟨b,mk,vi,hsl⟩:=slot (nx:=n2) (hp.grow (by omega))
  have hst:Stp L nx f L n2 f:=Stp.grow (by omega) fun _ _=>rfl
  have hnk:=hsl.nchk
  have hq:=hsl.idq
  have hat2:=hsl.at_
  have hblt:=hsl.blt
  have hcl:=aEh h.e.cur
  have hcp:=hsl.pot
  generalize hcv:h.cur=cv at *
  have eadd:addS (tx s) els=h.e.setCur (addN (tx s) h.e.cur)::t.map EH.e:=by rw [r9]; simp only [addS,El.add_cur]
  rw [eadd]
  rcases aC7 vi with hv | ⟨i,hv⟩
  ·have h00:=hsl.nil hv
   rw [h00] at hat2
   simp only [hv,lvO] at hat2
   have hld:=fun d s K=>hsl.load d s K .nils rfl
   have hsr:∀ (s:St) (K:St→Prop) (j n:Nat),s.L b=some (mk .nils)→aDs 1 (.own j 5 0 n) cv s K=K (s.put b (mk (.own j 5 0 n))):=fun s K j n e=>hsl.store s K .nils _ rfl rfl rfl e
   simp only [push_cast,seval,-Nat.reducePow,hnk,hld,hat2]
   refine aI9 ?_
   have nb:b≠n2+197:=by omega
   have nb':n2+197≠b:=by omega
   have hub:∀ (x:Option Blk) (M:Heap),upd M (n2+197) x b=M b:=fun x M=>aAd _ _ _ _ nb
   simp only [push_cast,seval,-Nat.reducePow,hnk,hld,hat2,hq,hsr,nb,nb',hub,List.set_cons_zero]
   refine ⟨by omega,by omega,by omega,by omega,?_⟩
   rw [h00,bC8 h0]
   exact Did.of hst (hsl.fin _ _ [tx s] (n2+197) (.inr (by omega)) (by simp only [aF7,nb',if_false,if_true]; rfl) (by simp) (by intro n hn; simp at hn; subst hn; simp [tx,Node.tn]) (by simp only [aF7,if_true]; rfl) (fun i hi h1 h2=>by simp only [aF7,h1,show i≠n2+197 by omega,if_false]) (by omega) (by omega))
  ·obtain ⟨q1,q2,q3,q4⟩:=hsl.own i hv
   obtain ⟨xs,x,hx⟩:∃ xs x,h.e.cur=xs++[x]:=by
    rcases List.eq_nil_or_concat h.e.cur with h0 | ⟨i,a,h0⟩
    ·exact absurd h0 q2
    ·exact ⟨i,a,by rw [h0,List.concat_eq_append]⟩
   have htn:=hsl.tn
   rw [hx] at hat2 q1 hcl htn ⊢
   simp only [hv,lvO] at hat2
   have hld:=fun d s K=>hsl.load d s K (.own i 5 0 (xs++[x]).length) rfl
   have hsr:∀ (s:St) (K:St→Prop) (j n:Nat),s.L b=some (mk (.own i 5 0 (xs++[x]).length))→aDs 1 (.own j 5 0 n) cv s K=K (s.put b (mk (.own j 5 0 n))):=fun s K j n e=>hsl.store s K _ _ rfl rfl rfl e
   have el:(xs++[x]).length=xs.length+1:=by simp
   rw [el] at hat2 hcl
   simp only [el] at hld hsr
   obtain ⟨k,xt,q,ks,as⟩:=x
   generalize hX:V.agg [.int .i64 k,.int .i64 xt,.str q,ln 5 (vns ks),ln 3 (vas as)]=X at *
   have hXc:X.cells=[.int .i64 k,.int .i64 xt,.str q,ln 5 (vns ks),ln 3 (vas as)]:=by rw [← hX]; rfl
   have hXr:∀ cs,X.recell cs=.agg cs:=fun cs=>by rw [← hX]; rfl
   have evx:vns (xs++[.mk k xt q ks as])=vns xs++X::[]:=by rw [aF0,← hX]; rfl
   rw [evx] at q1
   have e1:((xs.length:Nat):Int)+1-1=(xs.length:Nat):=by omega
   have e2:(vns xs++X::[]).getD xs.length .junk=X:=aEr (by simp [aBd])
   have e3:xs.length<(vns xs++[X]).length:=by simp [aBd]
   have e4:(0:Int)<((xs.length:Nat):Int)+1:=by omega
   have e5:∀ y,(vns xs++X::[]).set xs.length y=vns xs++y::[]:=fun y=>aLz (by simp [aBd])
   have hbi:b≠i:=Ne.symm q3
   have hlq:q.length≤2^30:=by
    have:=hsl.pot
    rw [hx,aBk] at this
    simp only [aA4,Node.bulk] at this
    omega
   have hxl:xs.length+1≤2^30:=by
    have h1:=hsl.pot
    have h2:=aEh h.e.cur
    have h3:h.e.cur.length=xs.length+1:=by rw [hx]; simp
    omega
   simp only [push_cast,seval,-Nat.reducePow,hnk,hld,hat2,q1,e1,e2,e3,e4,hXc]
   refine ⟨by omega,by omega,?_⟩
   refine aAk (fun hk=>?_) (fun hk=>?_)
   ·subst hk
    simp only [push_cast,seval,-Nat.reducePow,hnk,hld,hat2,q1,e1,e2,e3,e4,e5,hXc,hXr]
    refine ⟨by omega,by omega,by omega,by omega,by omega,?_⟩
    have ht:=htn (.mk 1 xt q ks as) (by simp) rfl
    obtain ⟨rfl,rfl,rfl⟩:=ht
    rw [bAy h0]
    have key:vns (xs++[tx (q++s)])=vns xs++[V.agg [.int .i64 1,.int .i64 0,.str (q++s),ln 5 (vns []),ln 3 (vas [])]]:=by rw [aF0]; rfl
    refine Did.of hst (hsl.fin _ _ (xs++[tx (q++s)]) i (.inl hv) (by simp only [aF7,if_true,key]) (by simp) ?_ ?_ (fun x hx h1 h2=>?_) (by omega) (by omega))
    ·intro n hn
     rcases List.mem_append.1 hn with hn | hn
     ·exact htn n (List.mem_append_left _ hn)
     ·simp at hn; subst hn; simp [tx,Node.tn]
    ·simp only [aF7,hbi,if_false,hat2]
     simp
    ·have:x≠i:=fun e=>h2 (by rw [hv,e])
     simp only [aF7,this,if_false]
   ·have nb:b≠n2+197:=by omega
    have nb':n2+197≠b:=by omega
    have hub:∀ (x:Option Blk) (M:Heap),upd M (n2+197) x b=M b:=fun x M=>aAd _ _ _ _ nb
    have hub2:∀ (x:Option Blk) (M:Heap),upd M i x b=M b:=fun x M=>aAd _ _ _ _ hbi
    have e6:List.take (xs.length+1) (vns xs++[X])=vns xs++[X]:=List.take_of_length_le (by simp [aBd])
    have e7:(((xs.length:Nat):Int)+1).toNat=xs.length+1:=by omega
    have e8:∀ Z,(vns xs++[X]++Z::[]).getD (xs.length+1) .junk=Z:=fun Z=>aEr (by simp [aBd])
    have e9:∀ Z y,(vns xs++[X]++Z::[]).set (xs.length+1) y=vns xs++[X]++y::[]:=fun Z y=>aLz (by simp [aBd])
    simp only [push_cast,seval,-Nat.reducePow,hnk,hld,hat2,q1,e1,e2,e3,e4,e5,hXc,hXr,hub,hub2,hsr,hq,e6,e7,e8,e9]
    refine ⟨by simp [aBd],by omega,by omega,by omega,by omega,by simp [aBd],by omega,by omega,?_⟩
    have hX':Node.kind (.mk k xt q ks as)≠1:=hk
    rw [bDj h0 hX']
    have key:vns (xs++[.mk k xt q ks as]++[tx s])=vns xs++[X]++[V.agg [.int .i64 1,.int .i64 0,.str s,.nils,.nils]]:=by rw [aF0,evx]; rfl
    refine Did.of hst (hsl.fin _ _ (xs++[.mk k xt q ks as]++[tx s]) (n2+197) (.inr (by omega)) (by simp only [aF7,nb',if_false,if_true,key]) (by simp) ?_ (by simp only [aF7,if_true]; simp) (fun x hx h1 h2=>?_) (by omega) (by omega))
    ·intro n hn
     rcases List.mem_append.1 hn with hn | hn
     ·exact htn n hn
     ·simp at hn; subst hn; simp [tx,Node.tn]
    ·have:x≠i:=fun e=>h2 (by rw [hv,e])
     simp only [aF7,this,h1,show x≠n2+197 by omega,if_false]
end Go.Ab
namespace Go.Ab
variable {P:Program} {F T:Nat→Nat}
theorem aUx (l:List Node) (s:List UInt8):aA4 (aB7 l s)≤aA4 l+s.length+1:=by
 rcases List.eq_nil_or_concat l with rfl | ⟨i,a,rfl⟩
 ·simp [aB7,aA4,Node.bulk,aCl]
 ·rw [List.concat_eq_append]
  obtain ⟨k,t,q,ks,as⟩:=a
  by_cases hk:k=1
  ·simp [aB7,hk,aBk,aA4,Node.bulk,aCl]; omega
  ·simp [aB7,hk,aBk,aA4,Node.bulk,aCl]; omega
theorem aWw (n:Node) (l:List Node):aA4 (addN n l)≤aA4 l+n.bulk:=by
 obtain ⟨k,t,q,ks,as⟩:=n
 by_cases hk:k=1
 ·by_cases hq:q=[]
  ·simp [addN,Node.kind,Node.text,hk,hq]
  ·have:=aUx l q; simp [addN,Node.kind,Node.text,hk,hq,Node.bulk]; omega
 ·simp [addN,Node.kind,Node.text,hk,aBk,aA4]
theorem aTr (ns:List Node) (e:El):(e.setCur ns).pot+aA4 e.cur=e.pot+aA4 ns:=by
 by_cases h:e.isA
 ·have h':=h.2
  simp only [El.setCur,El.cur,if_pos h,El.pot]
  rcases List.eq_nil_or_concat e.args with h0 | ⟨i,a,h0⟩
  ·exact absurd h0 h'
  ·rw [h0,List.concat_eq_append,aCq,aAz,aC8,aC8]
   obtain ⟨b,n,v⟩:=a
   simp [aCl,Arg.bulk,Arg.setVal,Arg.val]; omega
 ·simp only [El.setCur,El.cur,if_neg h,El.pot]; omega
theorem bD7 (n:Node) (els:List El):pot (addS n els)≤pot els+n.bulk:=by
 cases els with
 | nil=>simp [addS]
 | cons e r =>
   have h1:=aTr (addN n e.cur) e
   have h2:=aWw n e.cur
   simp only [addS,El.add_cur,pot]; omega
theorem Did.step {L0 L L':Heap} {nx0 nx nx':Nat} {f0 f:List Nat} {p:Nat} {els:List El} {r:V} (h:Stp L0 nx0 f0 L nx f) (k:Did T L nx f p els r L' nx'):Did T L0 nx0 f0 p els r L' nx':=by
 obtain ⟨f',k1,k2⟩:=k
 exact ⟨f',k1,h.trans k2⟩
theorem fr1 {L:Heap} {n c i:Nat} {x:Option Blk} (h:i<n):upd L (n+c) x i=L i:=aAd _ _ _ _ (by omega)
theorem Stk.ok {z:Bool} {L:Heap} {nx:Nat} {f:List Nat} {p:Nat} {els:List El} (h:Stk T z L nx f p els):∀ e,e∈els→e.ok:=by obtain ⟨sid,jk,hs,hp⟩:=h; exact hp.ok
theorem Stx.push {L L':Heap} {nx nx':Nat} {f:List Nat} {p:Nat} {els:List El} {sid:Nat} {jk:List V} {hs:List EH} (hp:Stx T false L nx f p els sid jk hs) (e:El) (id j:Nat) (hl:e.list=[]) (ha:e.args=[]) (hok:e.ok)
 (h1:L' p=some (.box (T 7) [.own j 1 0 (hs.length+1)])) (h2:L' j=some (.vec (T 6) 1 (hs.reverse.map EH.pt++[.ptr id 0]))) (h3:L' id=some (.box (T 5) [.int .i64 e.kind,.int .i64 e.tag,.int .i64 e.count,.nils,.nils]))
 (hid:id∉f) (hidn:id<nx') (hj:nx≤j) (hjn:j<nx') (hij:j≠id) (hfr:∀ i,i<nx→i≠p→i≠sid→i≠id→L' i=L i) (hle:nx≤nx') (hsid:id<nx→∀ ty cs,L id=some (.box ty cs)→L' id=L id) :
 ∃ f',Stk T false L' nx' f' p (e::els)∧(∀ i,i∈f'→i∈f∨i=id∨nx≤i)∧∀ i ty cs,i<nx→i∉f→L i=some (.box ty cs)→V.imms cs=true→L' i=some (.box ty cs):=by
 have hF:=hp.foot
 have hn:=hp.nodup
 rw [hF] at hn hid
 simp only [List.nodup_cons,List.mem_cons,not_or] at hn hid
 obtain ⟨⟨n1,n2⟩,n3,n4⟩:=hn
 obtain ⟨d1,d2,d3⟩:=hid
 have lt:=hp.lt
 rw [hF] at lt
 refine ⟨p::j::id::hs.flatMap EH.fp,⟨j,[],⟨e,id,none,none,none⟩::hs,⟨by simp [EH.fp],by simp [hp.map],by rw [h1]; simp,?_,?_,?_,?_,?_,?_⟩⟩,?_,?_⟩
 ·rw [h2]; simp [EH.pt]
 ·intro x hx
  rcases List.mem_cons.1 hx with rfl | hx
  ·refine ⟨by rw [h3]; simp [EH.cells,EH.lv,EH.av,lvO,hl,ha,vns,vas,ln],fun i hi=>by simp at hi,fun i hi=>by simp at hi,fun i hi=>by simp at hi⟩
  ·refine (hp.at_ x hx).frame fun i hi=>?_
   have hm:i∈hs.flatMap EH.fp:=List.mem_flatMap.2 ⟨x,hx,hi⟩
   exact hfr i (lt i (by simp [hm])) (fun e=>n2 (e ▸ hm)) (fun e=>n3 (e ▸ hm)) (fun e=>d3 (e ▸ hm))
 ·intro x hx
  rcases List.mem_cons.1 (by simpa using hx) with rfl | hx
  ·exact ⟨fun _=>hl,fun _=>ha,fun _=>by rw [ha]; rfl⟩
  ·exact hp.live x (by simpa using hx)
 ·simp only [List.nodup_cons,List.mem_cons,not_or]
  exact ⟨⟨fun e=>by have:=lt p (by simp); omega,fun e=>d1 e.symm,n2⟩,⟨hij,fun hm=>by have:=lt j (by simp [hm]); omega⟩,d3,n4⟩
 ·intro i hi
  simp only [List.mem_cons] at hi
  rcases hi with rfl | rfl | rfl | hi
  ·have:=lt i (by simp); omega
  ·exact hjn
  ·exact hidn
  ·have:=lt i (by simp [hi]); omega
 ·intro x hx
  rcases List.mem_cons.1 hx with rfl | hx
  ·exact hok
  ·exact hp.ok x hx
 ·intro i hi
  rw [hF]
  simp only [List.mem_cons] at hi ⊢
  rcases hi with rfl | rfl | rfl | hi
  ·exact .inl (.inl rfl)
  ·exact .inr (.inr hj)
  ·exact .inr (.inl rfl)
  ·exact .inl (.inr (.inr hi))
 ·intro i ty cs g1 g2 g3 g4
  rw [hF] at g2
  simp only [List.mem_cons,not_or] at g2
  by_cases e:i=id
  ·subst e; rw [hsid g1 ty cs g3]; exact g3
  ·rw [hfr i g1 g2.1 g2.2.1 e]; exact g3
end Go.Ab
