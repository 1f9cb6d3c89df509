import Derived.Test.YtikmbicdjpkipaaGreatDoorAbC1
import Derived.Test.YtikmbicdjpkipaaGreatDoorAbE4
open List renaming drop_zero->yn,take_length->zu,length_map->zb,getD_eq_getElem?_getD->ze,take->zA,take_of_length_le->zj,drop->yK,nil_append->yf,length_cons->zg,append_nil->yh,getLast?_eq_getElem?->we,map->zw
set_option linter.unusedSimpArgs false
set_option linter.unusedVariables false
namespace Go.Ab
abbrev Ttl:=Int×List UInt8
structure Rev where
 num:Int
 user:List UInt8
 note:List UInt8
 text:List UInt8
 minute:Int
 seq:Int
 deriving DecidableEq
structure Sto where
 t:Ttl
 hist:List Rev
structure Ppl where
 id:Int
 user:List UInt8
 note:List UInt8
 t:Ttl
 base:Int
 text:List UInt8
 minute:Int
structure Wat where
 user:List UInt8
 t:Ttl
 deriving DecidableEq
structure Las where
 user:List UInt8
 seq:Int
structure Stt where
 seq:Int
 clock:Int
 pages:List Sto
 gone:List Sto
 props:List Ppl
 proposed:Int
 watches:List Wat
 lasts:List Las
structure Chg where
 kind:Int
 user:List UInt8
 note:List UInt8
 t:Ttl
 to:Ttl
 text:List UInt8
 n:Int
 hist:List Rev
def tCs(t:Ttl):List V:=[.int .i64 t.1,.str t.2]
def tV(t:Ttl):V:=.agg (tCs t)
def Rev.v(r:Rev):V:=.agg [.int .i64 r.num,.str r.user,.str r.note,.str r.text,.int .i64 r.minute,.int .i64 r.seq]
def revV(l:List Rev):V:=.lst 6 (l.map Rev.v)
def Sto.v(p:Sto):V:=.agg [.int .i64 p.t.1,.str p.t.2,revV p.hist]
def stoV(l:List Sto):V:=.lst 3 (l.map Sto.v)
def Ppl.v(p:Ppl):V:=.agg [.int .i64 p.id,.str p.user,.str p.note,.int .i64 p.t.1,.str p.t.2,.int .i64 p.base,.str p.text,.int .i64 p.minute]
def pplV(l:List Ppl):V:=.lst 8 (l.map Ppl.v)
def Wat.v(w:Wat):V:=.agg [.str w.user,.int .i64 w.t.1,.str w.t.2]
def watV(l:List Wat):V:=.lst 3 (l.map Wat.v)
def Las.v(w:Las):V:=.agg [.str w.user,.int .i64 w.seq]
def lasV(l:List Las):V:=.lst 2 (l.map Las.v)
def Stt.cs(s:Stt):List V:=[.int .i64 s.seq,.int .i64 s.clock,stoV s.pages,stoV s.gone,pplV s.props,.int .i64 s.proposed,watV s.watches,lasV s.lasts]
def Stt.v(s:Stt):V:=.agg s.cs
def Chg.cs(c:Chg):List V:=[.int .i64 c.kind,.str c.user,.str c.note,.int .i64 c.t.1,.str c.t.2,.int .i64 c.to.1,.str c.to.2,.str c.text,.int .i64 c.n,revV c.hist]
def Chg.v(c:Chg):V:=.agg c.cs
def zTtl:Ttl:=(0,[])
def zRev:Rev:=⟨0,[],[],[],0,0⟩
def zSto:Sto:=⟨zTtl,[]⟩
def polT:Ttl:=(5,[80,111,108,105,99,121])
def cmpF(a b:Ttl):Int:=if a.1<b.1∨(a.1=b.1∧Op.bytesLess a.2 b.2=true)then -1 else if a=b then 0 else 1
def aDn(l:List Sto)(t:Ttl):Option Nat:=l.findIdx? λp=>decide (p.t=t)
def curS(p:Sto):Rev:=p.hist.getLast?.getD zRev
def insS(l:List Sto)(p:Sto):List Sto:=l.takeWhile (λq=>decide (cmpF q.t p.t<0))++p::l.dropWhile (λq=>decide (cmpF q.t p.t<0))
def wtoS(l:List Sto)(i:Nat):List Sto:=l.take i++l.drop (i+1)
def aC4(l:List Ppl)(t:Ttl):List Ppl:=l.filter λp=>decide (p.t≠t)
def putS(s:Stt)(c:Chg)(seq:Int):Stt×Int:=
 match aDn s.pages c.t with
 | none=>if 200<=s.pages.length then(s,8)else({ s with pages:=insS s.pages ⟨c.t,[⟨1,c.user,c.note,c.text,s.clock,seq⟩]⟩ },0)
 | some i =>
   let old:=(s.pages.getD i zSto).hist
   if 40<=old.length then(s,8)else({ s with pages:=s.pages.set i ⟨c.t,old++[⟨old.length+1,c.user,c.note,c.text,s.clock,seq⟩]⟩ },0)
def remS(s:Stt)(c:Chg):Stt×Int:=
 match aDn s.pages c.t with
 | none=>(s,4)
 | some i=>if 100<=s.gone.length then(s,8)else({ s with gone:=s.gone++[s.pages.getD i zSto],pages:=wtoS s.pages i,props:=aC4 s.props c.t },0)
def aLm(l:List Sto)(t:Ttl):Nat->Option Nat
 | 0=>none
 | k+1=>if(l.getD k zSto).t=t then some k else aLm l t k
def aPt(l:List Sto)(t:Ttl):Option Nat:=aLm l t l.length
def resS(s:Stt)(c:Chg):Stt×Int:=
 match aDn s.pages c.t with
 | some _=>(s,5)
 | none=>match aPt s.gone c.t with
   | none=>(s,4)
   | some i=>if 200<=s.pages.length then(s,8)else({ s with pages:=insS s.pages (s.gone.getD i zSto),gone:=wtoS s.gone i },0)
def spN(n:Int):List UInt8:=if n=1 then[84,97,108,107]else if n=2 then[85,115,101,114]else if n=3 then[84,101,109,112,108,97,116,101]else if n=4 then[67,97,116,101,103,111,114,121]else if n=5 then[80,114,111,106,101,99,116]else[]
def fmtT(ok:Ttl->Bool)(t:Ttl):List UInt8:=if ok t=true then(if t.1=0 then t.2 else spN t.1++58::t.2)else[]
def redS(ok:Ttl->Bool)(t:Ttl):List UInt8:=[35,82,69,68,73,82,69,67,84,32,91,91]++fmtT ok t++[93,93]
def movS(ok:Ttl->Bool)(s:Stt)(c:Chg)(seq:Int):Stt×Int:=
 match aDn s.pages c.t with
 | none=>(s,4)
 | some i=>match aDn s.pages c.to with
   | some _=>(s,5)
   | none=>if c.n=1∧200<=s.pages.length then(s,8)else
     let ps:=insS (wtoS s.pages i) ⟨c.to,(s.pages.getD i zSto).hist⟩
     ({ s with pages:=if c.n=1 then insS ps ⟨c.t,[⟨1,c.user,[],redS ok c.to,s.clock,seq⟩]⟩else ps,props:=aC4 s.props c.t },0)
def takS(s:Stt)(c:Chg)(seq:Int):Stt×Int:=
 match aDn s.pages c.t with
 | some _=>(s,5)
 | none=>if s.clock<(c.hist.getLast?.getD zRev).minute then(s,2)else if 200<=s.pages.length then(s,8)else({ s with pages:=insS s.pages ⟨c.t,c.hist.map λr=>{ r with seq:=seq }⟩ },0)
def befW(a b:Wat):Bool:=Op.bytesLess a.user b.user||(decide (a.user=b.user)&&decide (cmpF a.t b.t<0))
def wtcS(s:Stt)(c:Chg):Stt×Int:=
 let w:Wat:=⟨c.user,c.t⟩;let a:=s.watches.takeWhile λx=>befW x w;let b:=s.watches.dropWhile λx=>befW x w;let there:=b.head?=some w
 if c.kind=8 then(if there then({ s with watches:=a++b.tail },0)else(s,4))
 else if there then(s,5)else if 100<=s.watches.length then(s,8)else({ s with watches:=a++w::b },0)
def prpS(s:Stt)(c:Chg):Stt×Int:=
 if 40<=s.props.length∨1073741824<=s.proposed then(s,8)
 else({ s with proposed:=s.proposed+1,props:=s.props++[⟨s.proposed+1,c.user,c.note,c.t,c.n,c.text,s.clock⟩] },0)
def shtS(s:Stt)(c:Chg):Stt×Int:=
 let l:=s.props.filter λp=>decide (p.id≠c.n)
 if l.length=s.props.length then(s,4)else({ s with props:=l },0)
def aBs(ok:Ttl->Bool)(s:Stt)(c:Chg)(seq:Int):Stt×Int:=
 if c.kind=1 then putS s c seq else if c.kind=2 then remS s c else if c.kind=3 then resS s c else if c.kind=4 then movS ok s c seq else if c.kind=5 then takS s c seq
 else if c.kind=6 then(if 52595999-s.clock<c.n then(s,2)else({ s with clock:=s.clock+c.n },0))
 else if c.kind=7∨c.kind=8 then wtcS s c else if c.kind=9 then prpS s c else shtS s c
def notS(s:Stt)(u:List UInt8)(seq:Int):Stt×Int:=
 if u=[]then(s,0)else
  let a:=s.lasts.takeWhile λx=>Op.bytesLess x.user u;let b:=s.lasts.dropWhile λx=>Op.bytesLess x.user u;let there:=b.head?.map Las.user=some u
  if¬there∧60<=s.lasts.length then(s,8)else({ s with lasts:=a++⟨u,seq⟩::(if there then b.tail else b) },0)
theorem updJ{f:Heap}{i:Nat}{b:Option Blk}{j:Nat}:(upd f i b) j=if j=i then b else f j:=rfl
def c300(F T:Nat->Nat):C:=.n [.box 3 (T 17) (.t 1),.mov (some 4) (.i 0)]<|.seq (.n [.mov (some 5) (.i 0)]<|.block 0<|.loop<|.seq (.n [.m 6 5,.m 7 0,.ll 8 7,.b 9 .lss 6 8]<|.cond (.t 9) (.skip) (.exit 0))<|.seq (.block 1<|.seq (.p [.m 12 0,.m 13 5,.ia 14 3 12 13,.f 15 0 14,.load (some 16) false 2 true (.t 15),.load (some 17) false 2 true (.t 3),.eqA (some 18) false [0,1] (.t 16) (.t 17)])<|.cond (.t 18) (.n [.m 19 5,.m 4 19]<|.ret) (.skip))<|.o [.m 10 5,.bi 11 .add 10 1,.m 5 11])<|.n [.mov (some 4) (.k (.int .i64 (-1)))]<|.ret
abbrev aH8(P:Program)(F T:Nat->Nat):Prop:=Fn P (F 300) 20 [(4,none)] (c300 F T)
def c301(F T:Nat->Nat):C:=.n [.box 1 (T 35) (.t 0),.alloc 2 (T 36) [(.int .i64 0),(.str []),(.str []),(.str []),(.int .i64 0),(.int .i64 0)]]<|.seq (.n [.f 3 2 1,.l 4 3,.ll 5 4,.bi 6 .eql 5 0]<|.cond (.t 6) (.n [.build (some 7) [(.int .i64 0),(.str []),(.str []),(.str []),(.int .i64 0),(.int .i64 0)] [],.store 6 (.t 2) (.t 7)]<|.ret) (.skip))<|.n [.f 8 2 1,.l 9 8,.f 10 2 1,.l 11 10,.ll 12 11,.bi 13 .sub 12 1,.ia 14 6 9 13,.load (some 15) false 6 true (.t 14),.store 6 (.t 2) (.t 15)]<|.ret
abbrev aQy(P:Program)(F T:Nat->Nat):Prop:=Fn P (F 301) 16 [(2,(some (6,true)))] (c301 F T)
def c299(F T:Nat->Nat):C:=.n [.box 2 (T 34) (.t 0),.box 3 (T 17) (.t 1),.alloc 4 (T 35) [(.int .i64 0),(.str []),.nils],.mov (some 5) (.k (.bool false))]<|.n [.f 7 2 2,.l 8 7,.load (some 9) false 2 true (.t 3),.c 10 (F 300) [.t 8,.t 9],.m 6 10]<|.seq (.n [.m 11 6,.bi 12 .lss 11 0]<|.cond (.t 12) (.n [.build (some 13) [(.int .i64 0),(.str []),.nils] [],.store 3 (.t 4) (.t 13),.mov (some 5) (.k (.bool false))]<|.ret) (.skip))<|.n [.f 14 2 2,.l 15 14,.m 16 6,.ia 17 3 15 16,.load (some 18) false 3 true (.t 17),.store 3 (.t 4) (.t 18),.mov (some 5) (.k (.bool true))]<|.ret
abbrev aR7(P:Program)(F T:Nat->Nat):Prop:=Fn P (F 299) 19 [(4,(some (3,true))),(5,none)] (c299 F T)
def c318(F T:Nat->Nat):C:=.n [.box 2 (T 17) (.t 0),.box 3 (T 17) (.t 1),.mov (some 4) (.i 0)]<|.seq (.block 0<|.seq (.ops false [⟨none,[.f 6 0 2,.l 7 6,.f 8 0 3,.l 9 8,.b 10 .lss 7 9,.m 11 10]⟩,⟨some (11,false),[.f 12 0 2,.l 13 12,.f 14 0 3,.l 15 14,.b 16 .eql 13 15,.m 17 16]⟩,⟨some (17,true),[.f 18 1 2,.l 19 18,.f 20 1 3,.l 21 20,.b 22 .lss 19 21]⟩,⟨some (11,false),[.pf 23 17 22]⟩,⟨none,[.pt 24 11 23,.m 5 24]⟩])<|.cond (.t 5) (.n [.mov (some 4) (.k (.int .i64 (-1)))]<|.ret) (.n [.load (some 26) false 2 true (.t 2),.load (some 27) false 2 true (.t 3),.eqA (some 28) false [0,1] (.t 26) (.t 27),.m 25 28]<|.cond (.t 25) (.n [.mov (some 4) (.i 0)]<|.ret) (.skip)))<|.n [.mov (some 4) (.i 1)]<|.ret
abbrev aI8(P:Program)(F T:Nat->Nat):Prop:=Fn P (F 318) 29 [(4,none)] (c318 F T)
def c319(F T:Nat->Nat):C:=.n [.mov (some 2) (.k (.bool false))]<|.seq (.ops false [⟨none,[.m 3 0,.bin (some 4) .eql (.t 3) (.s []),.m 5 4]⟩,⟨some (5,false),[.m 6 0,.c 7 (F 217) [.t 6]]⟩,⟨none,[.pt 8 5 7,.m 2 8]⟩])<|.ret
abbrev bLk(P:Program)(F T:Nat->Nat):Prop:=Fn P (F 319) 9 [(2,none)] (c319 F T)
def c320(F T:Nat->Nat):C:=.n [.box 2 (T 40) (.t 0),.box 3 (T 40) (.t 1),.mov (some 4) (.k (.bool false))]<|.seq (.ops false [⟨none,[.f 5 0 2,.l 6 5,.f 7 0 3,.l 8 7,.b 9 .lss 6 8,.m 10 9]⟩,⟨some (10,false),[.f 11 0 2,.l 12 11,.f 13 0 3,.l 14 13,.b 15 .eql 12 14,.m 16 15]⟩,⟨some (16,true),[.f 17 1 2,.load (some 18) false 2 true (.t 17),.f 19 1 3,.load (some 20) false 2 true (.t 19),.c 21 (F 318) [.t 18,.t 20],.bi 22 .lss 21 0]⟩,⟨some (10,false),[.pf 23 16 22]⟩,⟨none,[.pt 24 10 23,.m 4 24]⟩])<|.ret
abbrev aXo(P:Program)(F T:Nat->Nat):Prop:=Fn P (F 320) 25 [(4,none)] (c320 F T)
def c321(F T:Nat->Nat):C:=.n [.mov (some 2) (.k (.bool false))]<|.seq (.ops false [⟨none,[.m 3 0,.bin (some 4) .eql (.t 3) (.s []),.m 5 4]⟩,⟨some (5,false),[.m 6 0,.c 7 (F 217) [.t 6]]⟩,⟨none,[.pt 8 5 7,.m 2 8]⟩])<|.ret
abbrev bJ4(P:Program)(F T:Nat->Nat):Prop:=Fn P (F 321) 9 [(2,none)] (c321 F T)
def c323(F T:Nat->Nat):C:=.n [.box 3 (T 35) (.t 1),.mov (some 4) (.k .nils)]<|.seq (.gha (.own 5 (T 35) 3)<|.o [.mov (some 5) (.k .nils)])<|.n [.mov (some 6) (.i 0)]<|.seq (.block 0<|.loop<|.seq (.seq (.ops true [⟨none,[.m 7 6,.m 8 0,.ll 9 8,.b 10 .lss 7 9,.m 11 10]⟩,⟨some (11,true),[.m 12 0,.m 13 6,.ia 14 3 12 13,.f 15 0 14,.load (some 16) false 2 true (.t 15),.f 17 0 3,.load (some 18) false 2 true (.t 17),.c 19 (F 318) [.t 16,.t 18],.bi 20 .lss 19 0]⟩,⟨none,[.pf 21 11 20]⟩])<|.cond (.t 21) (.skip) (.exit 0))<|.block 1<|.n [.m 22 5,.m 23 0,.m 24 6,.ia 25 3 23 24,.load (some 26) false 3 true (.t 25),.mkl (some 27) 3 [.t 26],.app 28 (T 35) 3 (.t 22) (.t 27),.m 5 28]<|.o [.m 29 6,.bi 30 .add 29 1,.m 6 30])<|.n [.m 31 5,.load (some 32) false 3 true (.t 3),.mkl (some 33) 3 [.t 32],.app 34 (T 35) 3 (.t 31) (.t 33),.m 5 34]<|.n [.m 35 5,.m 36 0,.m 37 6,.slc (some 38) 3 (.t 36) (some (.t 37)) none,.app 39 (T 35) 3 (.t 35) (.t 38),.m 4 39]<|.ret
abbrev aRa(P:Program)(F T:Nat->Nat):Prop:=Fn P (F 323) 40 [(4,none)] (c323 F T)
def c324(F T:Nat->Nat):C:=.n [.mov (some 4) (.k .nils)]<|.seq (.p [.m 5 0,.m 6 1,.slc (some 7) 3 (.t 5) none (some (.t 6)),.appl 8 (T 35) 3 (.t 7),.m 9 0,.m 10 1,.bi 11 .add 10 1,.slc (some 12) 3 (.t 9) (some (.t 11)) none,.app 13 (T 35) 3 (.t 8) (.t 12),.m 4 13])<|.ret
abbrev aVc(P:Program)(F T:Nat->Nat):Prop:=Fn P (F 324) 14 [(4,none)] (c324 F T)
def c325(F T:Nat->Nat):C:=.n [.box 3 (T 17) (.t 1),.mov (some 4) (.k .nils)]<|.seq (.gha (.own 5 (T 39) 8)<|.o [.mov (some 5) (.k .nils)])<|.seq (.n [.mov (some 6) (.i 0)]<|.block 0<|.loop<|.seq (.n [.m 7 6,.m 8 0,.ll 9 8,.b 10 .lss 7 9]<|.cond (.t 10) (.skip) (.exit 0))<|.seq (.block 1<|.seq (.p [.m 13 0,.m 14 6,.ia 15 8 13 14,.f 16 3 15,.load (some 17) false 2 true (.t 16),.load (some 18) false 2 true (.t 3),.eqA (some 19) true [0,1] (.t 17) (.t 18)])<|.cond (.t 19) (.o [.m 20 5,.m 21 0,.m 22 6,.ia 23 8 21 22,.load (some 24) false 8 true (.t 23),.mkl (some 25) 8 [.t 24],.app 26 (T 39) 8 (.t 20) (.t 25),.m 5 26]) (.skip))<|.o [.m 11 6,.bi 12 .add 11 1,.m 6 12])<|.n [.m 27 5,.m 4 27]<|.ret
abbrev aX1(P:Program)(F T:Nat->Nat):Prop:=Fn P (F 325) 28 [(4,none)] (c325 F T)
def c326(F T:Nat->Nat):C:=.n [.box 2 (T 34) (.t 0),.box 3 (T 17) (.t 1),.mov (some 4) (.i 0)]<|.seq (.n [.f 6 3 2,.l 7 6,.ll 8 7,.bi 9 .sub 8 1,.m 5 9]<|.block 0<|.loop<|.seq (.n [.m 10 5,.bi 11 .geq 10 0]<|.cond (.t 11) (.skip) (.exit 0))<|.seq (.block 1<|.seq (.p [.f 14 3 2,.l 15 14,.m 16 5,.ia 17 3 15 16,.f 18 0 17,.load (some 19) false 2 true (.t 18),.load (some 20) false 2 true (.t 3),.eqA (some 21) false [0,1] (.t 19) (.t 20)])<|.cond (.t 21) (.n [.m 22 5,.m 4 22]<|.ret) (.skip))<|.o [.m 12 5,.bi 13 .sub 12 1,.m 5 13])<|.n [.mov (some 4) (.k (.int .i64 (-1)))]<|.ret
abbrev bEq(P:Program)(F T:Nat->Nat):Prop:=Fn P (F 326) 23 [(4,none)] (c326 F T)
def c307(F T:Nat->Nat):C:=.n [.box 3 (T 34) (.t 0),.box 4 (T 37) (.t 1),.alloc 6 (T 34) [(.int .i64 0),(.int .i64 0),.nils,.nils,.nils,(.int .i64 0),.nils,.nils],.mov (some 7) (.i 0)]<|.n [.f 11 1 4,.l 12 11,.f 13 2 4,.l 14 13,.f 15 7 4,.l 16 15,.f 17 1 3,.l 18 17,.m 19 2,.build (some 20) [(.int .i64 0),(.str []),(.str []),(.str []),(.int .i64 0),(.int .i64 0)] [(0,1,(.i 1)),(1,1,(.t 12)),(2,1,(.t 14)),(3,1,(.t 16)),(4,1,(.t 18)),(5,1,(.t 19))],.alloc 8 (T 36) [(.int .i64 0),(.str []),(.str []),(.str []),(.int .i64 0),(.int .i64 0)],.store 6 (.t 8) (.t 20)]<|.n [.f 21 2 3,.l 22 21,.f 23 3 4,.load (some 24) false 2 true (.t 23),.c 25 (F 300) [.t 22,.t 24],.m 9 25]<|.seq (.n [.m 26 9,.bi 27 .lss 26 0]<|.cond (.t 27) (.seq (.n [.f 28 2 3,.l 29 28,.ll 30 29,.bi 31 .geq 30 200]<|.cond (.t 31) (.n [.load (some 32) false 8 true (.t 3),.store 8 (.t 6) (.t 32),.mov (some 7) (.i 8)]<|.ret) (.skip))<|.n [.f 33 2 3,.l 34 33,.f 35 3 4,.load (some 36) false 2 true (.t 35),.load (some 37) false 6 true (.t 8),.mkl (some 38) 6 [.t 37],.build (some 39) [(.int .i64 0),(.str []),.nils] [(0,2,(.t 36)),(2,1,(.t 38))],.c 40 (F 323) [.t 34,.t 39],.f 41 2 3,.store 1 (.t 41) (.t 40)]<|.n [.load (some 42) false 8 true (.t 3),.store 8 (.t 6) (.t 42),.mov (some 7) (.i 0)]<|.ret) (.skip))<|.n [.f 43 2 3,.l 44 43,.m 45 9,.ia 46 3 44 45,.f 47 2 46,.l 48 47,.m 10 48]<|.seq (.n [.m 49 10,.ll 50 49,.bi 51 .geq 50 40]<|.cond (.t 51) (.n [.load (some 52) false 8 true (.t 3),.store 8 (.t 6) (.t 52),.mov (some 7) (.i 8)]<|.ret) (.skip))<|.n [.m 53 10,.ll 54 53,.bi 55 .add 54 1,.f 56 0 8,.store 1 (.t 56) (.t 55)]<|.n [.f 57 2 3,.l 58 57,.appl 59 (T 35) 3 (.t 58),.f 60 2 3,.store 1 (.t 60) (.t 59)]<|.seq (.p [.f 61 2 3,.ldo (some 62) 1 false (.t 61),.m 63 9,.m 64 10,.appl 65 (T 36) 6 (.t 64),.load (some 66) false 6 true (.t 8),.mkl (some 67) 6 [.t 66],.apq 68 (T 36) 6 (.t 65) (.t 67),.ia 69 3 62 63,.f 70 2 69,.store 1 (.t 70) (.t 68)])<|.seq (.gh .fz<|.o [.load (some 71) false 8 true (.t 3),.store 8 (.t 6) (.t 71),.mov (some 7) (.i 0)])<|.ret
abbrev bKu(P:Program)(F T:Nat->Nat):Prop:=Fn P (F 307) 72 [(6,(some (8,true))),(7,none)] (c307 F T)
def c308(F T:Nat->Nat):C:=.n [.box 2 (T 34) (.t 0),.box 3 (T 37) (.t 1),.alloc 4 (T 34) [(.int .i64 0),(.int .i64 0),.nils,.nils,.nils,(.int .i64 0),.nils,.nils],.mov (some 5) (.i 0)]<|.n [.f 7 2 2,.l 8 7,.f 9 3 3,.load (some 10) false 2 true (.t 9),.c 11 (F 300) [.t 8,.t 10],.m 6 11]<|.seq (.n [.m 12 6,.bi 13 .lss 12 0]<|.cond (.t 13) (.n [.load (some 14) false 8 true (.t 2),.store 8 (.t 4) (.t 14),.mov (some 5) (.i 4)]<|.ret) (.skip))<|.seq (.n [.f 15 3 2,.l 16 15,.ll 17 16,.bi 18 .geq 17 100]<|.cond (.t 18) (.n [.load (some 19) false 8 true (.t 2),.store 8 (.t 4) (.t 19),.mov (some 5) (.i 8)]<|.ret) (.skip))<|.seq (.p [.f 20 3 2,.l 21 20,.appl 22 (T 35) 3 (.t 21),.f 23 2 2,.l 24 23,.m 25 6,.ia 26 3 24 25,.load (some 27) false 3 true (.t 26),.mkl (some 28) 3 [.t 27],.app 29 (T 35) 3 (.t 22) (.t 28),.f 30 3 2,.store 1 (.t 30) (.t 29)])<|.n [.f 31 2 2,.l 32 31,.m 33 6,.c 34 (F 324) [.t 32,.t 33],.f 35 2 2,.store 1 (.t 35) (.t 34)]<|.n [.f 36 4 2,.l 37 36,.f 38 3 3,.load (some 39) false 2 true (.t 38),.c 40 (F 325) [.t 37,.t 39],.f 41 4 2,.store 1 (.t 41) (.t 40)]<|.n [.load (some 42) false 8 true (.t 2),.store 8 (.t 4) (.t 42),.mov (some 5) (.i 0)]<|.ret
abbrev bK3(P:Program)(F T:Nat->Nat):Prop:=Fn P (F 308) 43 [(4,(some (8,true))),(5,none)] (c308 F T)
def c309(F T:Nat->Nat):C:=.n [.box 2 (T 34) (.t 0),.box 3 (T 37) (.t 1),.alloc 4 (T 34) [(.int .i64 0),(.int .i64 0),.nils,.nils,.nils,(.int .i64 0),.nils,.nils],.mov (some 5) (.i 0)]<|.n [.load (some 7) false 8 true (.t 2),.f 8 3 3,.load (some 9) false 2 true (.t 8),.c 10 (F 326) [.t 7,.t 9],.m 6 10]<|.seq (.n [.f 11 2 2,.l 12 11,.f 13 3 3,.load (some 14) false 2 true (.t 13),.c 15 (F 300) [.t 12,.t 14],.bi 16 .geq 15 0]<|.cond (.t 16) (.n [.load (some 17) false 8 true (.t 2),.store 8 (.t 4) (.t 17),.mov (some 5) (.i 5)]<|.ret) (.skip))<|.seq (.n [.m 18 6,.bi 19 .lss 18 0]<|.cond (.t 19) (.n [.load (some 20) false 8 true (.t 2),.store 8 (.t 4) (.t 20),.mov (some 5) (.i 4)]<|.ret) (.skip))<|.seq (.n [.f 21 2 2,.l 22 21,.ll 23 22,.bi 24 .geq 23 200]<|.cond (.t 24) (.n [.load (some 25) false 8 true (.t 2),.store 8 (.t 4) (.t 25),.mov (some 5) (.i 8)]<|.ret) (.skip))<|.seq (.p [.f 26 2 2,.l 27 26,.f 28 3 2,.l 29 28,.m 30 6,.ia 31 3 29 30,.load (some 32) false 3 true (.t 31),.c 33 (F 323) [.t 27,.t 32],.f 34 2 2,.store 1 (.t 34) (.t 33)])<|.n [.f 35 3 2,.l 36 35,.m 37 6,.c 38 (F 324) [.t 36,.t 37],.f 39 3 2,.store 1 (.t 39) (.t 38)]<|.n [.load (some 40) false 8 true (.t 2),.store 8 (.t 4) (.t 40),.mov (some 5) (.i 0)]<|.ret
abbrev bHb(P:Program)(F T:Nat->Nat):Prop:=Fn P (F 309) 41 [(4,(some (8,true))),(5,none)] (c309 F T)
def c310(F T:Nat->Nat):C:=.n [.box 3 (T 34) (.t 0),.box 4 (T 37) (.t 1),.alloc 6 (T 34) [(.int .i64 0),(.int .i64 0),.nils,.nils,.nils,(.int .i64 0),.nils,.nils],.mov (some 7) (.i 0)]<|.n [.f 11 2 3,.l 12 11,.f 13 3 4,.load (some 14) false 2 true (.t 13),.c 15 (F 300) [.t 12,.t 14],.m 8 15]<|.seq (.n [.m 16 8,.bi 17 .lss 16 0]<|.cond (.t 17) (.n [.load (some 18) false 8 true (.t 3),.store 8 (.t 6) (.t 18),.mov (some 7) (.i 4)]<|.ret) (.skip))<|.seq (.n [.f 19 2 3,.l 20 19,.f 21 5 4,.load (some 22) false 2 true (.t 21),.c 23 (F 300) [.t 20,.t 22],.bi 24 .geq 23 0]<|.cond (.t 24) (.n [.load (some 25) false 8 true (.t 3),.store 8 (.t 6) (.t 25),.mov (some 7) (.i 5)]<|.ret) (.skip))<|.seq (.seq (.ops false [⟨none,[.f 26 8 4,.l 27 26,.bi 28 .eql 27 1,.m 29 28]⟩,⟨some (29,true),[.f 30 2 3,.l 31 30,.ll 32 31,.bi 33 .geq 32 200]⟩,⟨none,[.pf 34 29 33]⟩])<|.cond (.t 34) (.n [.load (some 35) false 8 true (.t 3),.store 8 (.t 6) (.t 35),.mov (some 7) (.i 8)]<|.ret) (.skip))<|.n [.f 36 2 3,.l 37 36,.m 38 8,.ia 39 3 37 38,.load (some 40) false 3 true (.t 39),.alloc 9 (T 35) [(.int .i64 0),(.str []),.nils],.store 3 (.t 9) (.t 40)]<|.n [.f 41 5 4,.load (some 42) false 2 true (.t 41),.f 43 0 9,.store 2 (.t 43) (.t 42)]<|.seq (.p [.f 44 2 3,.l 45 44,.m 46 8,.c 47 (F 324) [.t 45,.t 46],.load (some 48) false 3 true (.t 9),.c 49 (F 323) [.t 47,.t 48],.f 50 2 3,.store 1 (.t 50) (.t 49)])<|.seq (.n [.f 51 8 4,.l 52 51,.bi 53 .eql 52 1]<|.cond (.t 53) (.seq (.p [.f 54 1 4,.l 55 54,.f 56 5 4,.load (some 57) false 2 true (.t 56),.c 58 (F 327) [.t 57],.f 59 1 3,.l 60 59,.m 61 2,.build (some 62) [(.int .i64 0),(.str []),(.str []),(.str []),(.int .i64 0),(.int .i64 0)] [(0,1,(.i 1)),(1,1,(.t 55)),(3,1,(.t 58)),(4,1,(.t 60)),(5,1,(.t 61))],.alloc 10 (T 36) [(.int .i64 0),(.str []),(.str []),(.str []),(.int .i64 0),(.int .i64 0)],.store 6 (.t 10) (.t 62)])<|.o [.f 63 2 3,.l 64 63,.f 65 3 4,.load (some 66) false 2 true (.t 65),.load (some 67) false 6 true (.t 10),.mkl (some 68) 6 [.t 67],.build (some 69) [(.int .i64 0),(.str []),.nils] [(0,2,(.t 66)),(2,1,(.t 68))],.c 70 (F 323) [.t 64,.t 69],.f 71 2 3,.store 1 (.t 71) (.t 70)]) (.skip))<|.n [.f 72 4 3,.l 73 72,.f 74 3 4,.load (some 75) false 2 true (.t 74),.c 76 (F 325) [.t 73,.t 75],.f 77 4 3,.store 1 (.t 77) (.t 76)]<|.n [.load (some 78) false 8 true (.t 3),.store 8 (.t 6) (.t 78),.mov (some 7) (.i 0)]<|.ret
abbrev bJs(P:Program)(F T:Nat->Nat):Prop:=Fn P (F 310) 79 [(6,(some (8,true))),(7,none)] (c310 F T)
def c311(F T:Nat->Nat):C:=.n [.box 3 (T 34) (.t 0),.box 4 (T 37) (.t 1),.alloc 6 (T 34) [(.int .i64 0),(.int .i64 0),.nils,.nils,.nils,(.int .i64 0),.nils,.nils],.mov (some 7) (.i 0)]<|.seq (.n [.f 10 2 3,.l 11 10,.f 12 3 4,.load (some 13) false 2 true (.t 12),.c 14 (F 300) [.t 11,.t 13],.bi 15 .geq 14 0]<|.cond (.t 15) (.n [.load (some 16) false 8 true (.t 3),.store 8 (.t 6) (.t 16),.mov (some 7) (.i 5)]<|.ret) (.skip))<|.seq (.seq (.p [.f 17 9 4,.l 18 17,.f 19 9 4,.l 20 19,.ll 21 20,.bi 22 .sub 21 1,.ia 23 6 18 22,.f 24 4 23,.l 25 24,.f 26 1 3,.l 27 26,.b 28 .gtr 25 27])<|.cond (.t 28) (.n [.load (some 29) false 8 true (.t 3),.store 8 (.t 6) (.t 29),.mov (some 7) (.i 2)]<|.ret) (.skip))<|.seq (.n [.f 30 2 3,.l 31 30,.ll 32 31,.bi 33 .geq 32 200]<|.cond (.t 33) (.n [.load (some 34) false 8 true (.t 3),.store 8 (.t 6) (.t 34),.mov (some 7) (.i 8)]<|.ret) (.skip))<|.n [.f 35 9 4,.l 36 35,.appl 37 (T 36) 6 (.t 36),.m 8 37]<|.seq (.n [.mov (some 9) (.i 0)]<|.block 0<|.loop<|.seq (.n [.m 38 9,.m 39 8,.ll 40 39,.b 41 .lss 38 40]<|.cond (.t 41) (.skip) (.exit 0))<|.seq (.block 1<|.o [.m 44 8,.m 45 9,.m 46 2,.ia 47 6 44 45,.f 48 5 47,.store 1 (.t 48) (.t 46)])<|.o [.m 42 9,.bi 43 .add 42 1,.m 9 43])<|.seq (.gh .fz<|.o [.f 49 2 3,.l 50 49,.f 51 3 4,.load (some 52) false 2 true (.t 51),.m 53 8,.build (some 54) [(.int .i64 0),(.str []),.nils] [(0,2,(.t 52)),(2,1,(.t 53))],.c 55 (F 323) [.t 50,.t 54],.f 56 2 3,.store 1 (.t 56) (.t 55)])<|.n [.load (some 57) false 8 true (.t 3),.store 8 (.t 6) (.t 57),.mov (some 7) (.i 0)]<|.ret
abbrev bHu(P:Program)(F T:Nat->Nat):Prop:=Fn P (F 311) 58 [(6,(some (8,true))),(7,none)] (c311 F T)
def c312(F T:Nat->Nat):C:=.n [.box 2 (T 34) (.t 0),.box 3 (T 37) (.t 1),.alloc 4 (T 34) [(.int .i64 0),(.int .i64 0),.nils,.nils,.nils,(.int .i64 0),.nils,.nils],.mov (some 5) (.i 0)]<|.n [.f 10 1 3,.l 11 10,.f 12 3 3,.load (some 13) false 2 true (.t 12),.build (some 14) [(.str []),(.int .i64 0),(.str [])] [(0,1,(.t 11)),(1,2,(.t 13))],.alloc 6 (T 40) [(.str []),(.int .i64 0),(.str [])],.store 3 (.t 6) (.t 14)]<|.seq (.gha (.own 7 (T 40) 3)<|.o [.mov (some 7) (.k .nils)])<|.n [.mov (some 8) (.i 0)]<|.seq (.block 0<|.loop<|.seq (.seq (.ops true [⟨none,[.m 15 8,.f 16 6 2,.l 17 16,.ll 18 17,.b 19 .lss 15 18,.m 20 19]⟩,⟨some (20,true),[.f 21 6 2,.l 22 21,.m 23 8,.ia 24 3 22 23,.load (some 25) false 3 true (.t 24),.load (some 26) false 3 true (.t 6),.c 27 (F 320) [.t 25,.t 26]]⟩,⟨none,[.pf 28 20 27]⟩])<|.cond (.t 28) (.skip) (.exit 0))<|.block 1<|.n [.m 29 7,.f 30 6 2,.l 31 30,.m 32 8,.ia 33 3 31 32,.load (some 34) false 3 true (.t 33),.mkl (some 35) 3 [.t 34],.app 36 (T 40) 3 (.t 29) (.t 35),.m 7 36]<|.o [.m 37 8,.bi 38 .add 37 1,.m 8 38])<|.seq (.ops true [⟨none,[.m 39 8,.f 40 6 2,.l 41 40,.ll 42 41,.b 43 .lss 39 42,.m 44 43]⟩,⟨some (44,true),[.f 45 6 2,.l 46 45,.m 47 8,.ia 48 3 46 47,.load (some 49) false 3 true (.t 48),.load (some 50) false 3 true (.t 6),.eqA (some 51) false [1,0,1] (.t 49) (.t 50)]⟩,⟨none,[.pf 52 44 51,.m 9 52]⟩])<|.seq (.n [.f 53 0 3,.l 54 53,.bi 55 .eql 54 8]<|.cond (.t 55) (.seq (.n [.m 56 9,.un (some 57) .not (.t 56)]<|.cond (.t 57) (.n [.load (some 58) false 8 true (.t 2),.store 8 (.t 4) (.t 58),.mov (some 5) (.i 4)]<|.ret) (.skip))<|.n [.m 59 7,.f 60 6 2,.l 61 60,.m 62 8,.bi 63 .add 62 1,.slc (some 64) 3 (.t 61) (some (.t 63)) none,.app 65 (T 40) 3 (.t 59) (.t 64),.f 66 6 2,.store 1 (.t 66) (.t 65)]<|.n [.load (some 67) false 8 true (.t 2),.store 8 (.t 4) (.t 67),.mov (some 5) (.i 0)]<|.ret) (.skip))<|.seq (.n [.m 68 9]<|.cond (.t 68) (.n [.load (some 69) false 8 true (.t 2),.store 8 (.t 4) (.t 69),.mov (some 5) (.i 5)]<|.ret) (.skip))<|.seq (.n [.f 70 6 2,.l 71 70,.ll 72 71,.bi 73 .geq 72 100]<|.cond (.t 73) (.n [.load (some 74) false 8 true (.t 2),.store 8 (.t 4) (.t 74),.mov (some 5) (.i 8)]<|.ret) (.skip))<|.seq (.p [.m 75 7,.load (some 76) false 3 true (.t 6),.mkl (some 77) 3 [.t 76],.apq 78 (T 40) 3 (.t 75) (.t 77),.f 79 6 2,.ldo (some 80) 1 false (.t 79),.m 81 8,.slc (some 82) 3 (.t 80) (some (.t 81)) none,.app 83 (T 40) 3 (.t 78) (.t 82),.f 84 6 2,.store 1 (.t 84) (.t 83)])<|.n [.load (some 85) false 8 true (.t 2),.store 8 (.t 4) (.t 85),.mov (some 5) (.i 0)]<|.ret
abbrev bJg(P:Program)(F T:Nat->Nat):Prop:=Fn P (F 312) 86 [(4,(some (8,true))),(5,none)] (c312 F T)
def c313(F T:Nat->Nat):C:=.n [.box 2 (T 34) (.t 0),.box 3 (T 37) (.t 1),.alloc 4 (T 34) [(.int .i64 0),(.int .i64 0),.nils,.nils,.nils,(.int .i64 0),.nils,.nils],.mov (some 5) (.i 0)]<|.seq (.seq (.ops false [⟨none,[.f 7 4 2,.l 8 7,.ll 9 8,.bi 10 .geq 9 40,.m 11 10]⟩,⟨some (11,false),[.f 12 5 2,.l 13 12,.bi 14 .geq 13 1073741824]⟩,⟨none,[.pt 15 11 14]⟩])<|.cond (.t 15) (.n [.load (some 16) false 8 true (.t 2),.store 8 (.t 4) (.t 16),.mov (some 5) (.i 8)]<|.ret) (.skip))<|.n [.f 17 5 2,.l 18 17,.bi 19 .add 18 1,.f 20 5 2,.store 1 (.t 20) (.t 19)]<|.n [.f 21 5 2,.l 22 21,.f 23 1 3,.l 24 23,.f 25 2 3,.l 26 25,.f 27 3 3,.load (some 28) false 2 true (.t 27),.f 29 8 3,.l 30 29,.f 31 7 3,.l 32 31,.f 33 1 2,.l 34 33,.build (some 35) [(.int .i64 0),(.str []),(.str []),(.int .i64 0),(.str []),(.int .i64 0),(.str []),(.int .i64 0)] [(0,1,(.t 22)),(1,1,(.t 24)),(2,1,(.t 26)),(3,2,(.t 28)),(5,1,(.t 30)),(6,1,(.t 32)),(7,1,(.t 34))],.alloc 6 (T 39) [(.int .i64 0),(.str []),(.str []),(.int .i64 0),(.str []),(.int .i64 0),(.str []),(.int .i64 0)],.store 8 (.t 6) (.t 35)]<|.seq (.p [.f 36 4 2,.l 37 36,.appl 38 (T 39) 8 (.t 37),.load (some 39) false 8 true (.t 6),.mkl (some 40) 8 [.t 39],.app 41 (T 39) 8 (.t 38) (.t 40),.f 42 4 2,.store 1 (.t 42) (.t 41)])<|.n [.load (some 43) false 8 true (.t 2),.store 8 (.t 4) (.t 43),.mov (some 5) (.i 0)]<|.ret
abbrev bI1(P:Program)(F T:Nat->Nat):Prop:=Fn P (F 313) 44 [(4,(some (8,true))),(5,none)] (c313 F T)
def c314(F T:Nat->Nat):C:=.n [.box 2 (T 34) (.t 0),.box 3 (T 37) (.t 1),.alloc 4 (T 34) [(.int .i64 0),(.int .i64 0),.nils,.nils,.nils,(.int .i64 0),.nils,.nils],.mov (some 5) (.i 0)]<|.seq (.gha (.own 6 (T 39) 8)<|.o [.mov (some 6) (.k .nils)])<|.seq (.n [.mov (some 7) (.i 0)]<|.block 0<|.loop<|.seq (.n [.m 8 7,.f 9 4 2,.l 10 9,.ll 11 10,.b 12 .lss 8 11]<|.cond (.t 12) (.skip) (.exit 0))<|.seq (.block 1<|.seq (.p [.f 15 4 2,.l 16 15,.m 17 7,.ia 18 8 16 17,.f 19 0 18,.l 20 19,.f 21 8 3,.l 22 21,.b 23 .neq 20 22])<|.cond (.t 23) (.o [.m 24 6,.f 25 4 2,.l 26 25,.m 27 7,.ia 28 8 26 27,.load (some 29) false 8 true (.t 28),.mkl (some 30) 8 [.t 29],.app 31 (T 39) 8 (.t 24) (.t 30),.m 6 31]) (.skip))<|.o [.m 13 7,.bi 14 .add 13 1,.m 7 14])<|.seq (.n [.m 32 6,.ll 33 32,.f 34 4 2,.l 35 34,.ll 36 35,.b 37 .eql 33 36]<|.cond (.t 37) (.n [.load (some 38) false 8 true (.t 2),.store 8 (.t 4) (.t 38),.mov (some 5) (.i 4)]<|.ret) (.skip))<|.n [.m 39 6,.f 40 4 2,.store 1 (.t 40) (.t 39)]<|.n [.load (some 41) false 8 true (.t 2),.store 8 (.t 4) (.t 41),.mov (some 5) (.i 0)]<|.ret
abbrev bIs(P:Program)(F T:Nat->Nat):Prop:=Fn P (F 314) 42 [(4,(some (8,true))),(5,none)] (c314 F T)
def c315(F T:Nat->Nat):C:=.n [.alloc 0 (T 17) [(.int .i64 0),(.str [])]]<|.n [.build (some 1) [(.int .i64 0),(.str [])] [(0,1,(.i 5)),(1,1,(.s [80,111,108,105,99,121]))],.store 2 (.t 0) (.t 1)]<|.ret
abbrev aZi(P:Program)(F T:Nat->Nat):Prop:=Fn P (F 315) 2 [(0,(some (2,true)))] (c315 F T)
def c296(F T:Nat->Nat):C:=.n [.box 3 (T 34) (.t 0),.box 4 (T 37) (.t 1),.alloc 6 (T 34) [(.int .i64 0),(.int .i64 0),.nils,.nils,.nils,(.int .i64 0),.nils,.nils],.mov (some 7) (.i 0)]<|.seq (.n [.f 8 0 4,.l 9 8]<|.block 0<|.n [.bi 11 .eql 9 1,.m 10 11]<|.cond (.t 10) (.n [.load (some 12) false 8 true (.t 3),.load (some 13) false 10 true (.t 4),.m 14 2,.c 15 (F 307) [.t 12,.t 13,.t 14],.x 16 0 15,.x 17 1 15,.store 8 (.t 6) (.t 16),.m 7 17]<|.ret) (.n [.bi 19 .eql 9 2,.m 18 19]<|.cond (.t 18) (.n [.load (some 20) false 8 true (.t 3),.load (some 21) false 10 true (.t 4),.c 22 (F 308) [.t 20,.t 21],.x 23 0 22,.x 24 1 22,.store 8 (.t 6) (.t 23),.m 7 24]<|.ret) (.n [.bi 26 .eql 9 3,.m 25 26]<|.cond (.t 25) (.n [.load (some 27) false 8 true (.t 3),.load (some 28) false 10 true (.t 4),.c 29 (F 309) [.t 27,.t 28],.x 30 0 29,.x 31 1 29,.store 8 (.t 6) (.t 30),.m 7 31]<|.ret) (.n [.bi 33 .eql 9 4,.m 32 33]<|.cond (.t 32) (.n [.load (some 34) false 8 true (.t 3),.load (some 35) false 10 true (.t 4),.m 36 2,.c 37 (F 310) [.t 34,.t 35,.t 36],.x 38 0 37,.x 39 1 37,.store 8 (.t 6) (.t 38),.m 7 39]<|.ret) (.n [.bi 41 .eql 9 5,.m 40 41]<|.cond (.t 40) (.n [.load (some 42) false 8 true (.t 3),.load (some 43) false 10 true (.t 4),.m 44 2,.c 45 (F 311) [.t 42,.t 43,.t 44],.x 46 0 45,.x 47 1 45,.store 8 (.t 6) (.t 46),.m 7 47]<|.ret) (.n [.bi 49 .eql 9 6,.m 48 49]<|.cond (.t 48) (.seq (.n [.f 50 8 4,.l 51 50,.f 52 1 3,.l 53 52,.bin (some 54) .sub (.i 52595999) (.t 53),.b 55 .gtr 51 54]<|.cond (.t 55) (.n [.load (some 56) false 8 true (.t 3),.store 8 (.t 6) (.t 56),.mov (some 7) (.i 2)]<|.ret) (.skip))<|.n [.f 57 1 3,.l 58 57,.f 59 8 4,.l 60 59,.b 61 .add 58 60,.f 62 1 3,.store 1 (.t 62) (.t 61)]<|.n [.load (some 63) false 8 true (.t 3),.store 8 (.t 6) (.t 63),.mov (some 7) (.i 0)]<|.ret) (.seq (.n [.bi 65 .eql 9 7,.m 64 65]<|.cond (.t 64) (.skip) (.o [.bi 66 .eql 9 8,.m 64 66]))<|.cond (.t 64) (.n [.load (some 67) false 8 true (.t 3),.load (some 68) false 10 true (.t 4),.c 69 (F 312) [.t 67,.t 68],.x 70 0 69,.x 71 1 69,.store 8 (.t 6) (.t 70),.m 7 71]<|.ret) (.n [.bi 73 .eql 9 9,.m 72 73]<|.cond (.t 72) (.n [.load (some 74) false 8 true (.t 3),.load (some 75) false 10 true (.t 4),.c 76 (F 313) [.t 74,.t 75],.x 77 0 76,.x 78 1 76,.store 8 (.t 6) (.t 77),.m 7 78]<|.ret) (.skip)))))))))<|.n [.load (some 79) false 8 true (.t 3),.load (some 80) false 10 true (.t 4),.c 81 (F 314) [.t 79,.t 80],.x 82 0 81,.x 83 1 81,.store 8 (.t 6) (.t 82),.m 7 83]<|.ret
abbrev bHz(P:Program)(F T:Nat->Nat):Prop:=Fn P (F 296) 84 [(6,(some (8,true))),(7,none)] (c296 F T)
def c297(F T:Nat->Nat):C:=.n [.box 1 (T 37) (.t 0),.mov (some 2) (.k (.bool false))]<|.seq (.n [.f 6 0 1,.l 7 6]<|.block 0<|.n [.bi 9 .eql 7 1,.m 8 9]<|.cond (.t 8) (.seq (.seq (.p [.f 10 3 1,.load (some 11) false 2 true (.t 10),.c 12 (F 315) [],.eqA (some 13) true [0,1] (.t 11) (.t 12)])<|.cond (.t 13) (.n [.mov (some 2) (.k (.bool false))]<|.ret) (.skip))<|.n [.f 15 7 1,.l 16 15,.c 17 (F 316) [.t 16],.m 14 17,.x 18 0 14,.x 19 1 14,.x 20 2 14,.alloc 3 (T 16) [.nils,.nils,.nils],.store 3 (.t 3) (.t 18),.m 4 19,.m 5 20]<|.n [.m 21 5,.bi 22 .neq 21 0,.m 2 22]<|.ret) (.seq (.n [.bi 24 .eql 7 2,.m 23 24]<|.cond (.t 23) (.skip) (.n [.bi 25 .eql 7 3,.m 23 25]<|.cond (.t 23) (.skip) (.o [.bi 26 .eql 7 5,.m 23 26])))<|.cond (.t 23) (.seq (.p [.f 27 3 1,.load (some 28) false 2 true (.t 27),.c 29 (F 315) [],.eqA (some 30) false [0,1] (.t 28) (.t 29),.m 2 30])<|.ret) (.n [.bi 32 .eql 7 4,.m 31 32]<|.cond (.t 31) (.seq (.ops true [⟨none,[.f 33 3 1,.load (some 34) false 2 true (.t 33),.c 35 (F 315) [],.eqA (some 36) false [0,1] (.t 34) (.t 35),.m 37 36]⟩,⟨some (37,false),[.f 38 5 1,.load (some 39) false 2 true (.t 38),.c 40 (F 315) [],.eqA (some 41) false [0,1] (.t 39) (.t 40)]⟩,⟨none,[.pt 42 37 41,.m 2 42]⟩])<|.ret) (.skip))))<|.n [.mov (some 2) (.k (.bool false))]<|.ret
abbrev bHt(P:Program)(F T:Nat->Nat):Prop:=Fn P (F 297) 43 [(2,none)] (c297 F T)
def c298(F T:Nat->Nat):C:=.n [.box 3 (T 34) (.t 0),.alloc 6 (T 34) [(.int .i64 0),(.int .i64 0),.nils,.nils,.nils,(.int .i64 0),.nils,.nils],.mov (some 7) (.i 0)]<|.seq (.n [.m 11 1,.bin (some 12) .eql (.t 11) (.s [])]<|.cond (.t 12) (.n [.load (some 13) false 8 true (.t 3),.store 8 (.t 6) (.t 13),.mov (some 7) (.i 0)]<|.ret) (.skip))<|.seq (.gha (.own 8 (T 38) 2)<|.o [.mov (some 8) (.k .nils)])<|.n [.mov (some 9) (.i 0)]<|.seq (.block 0<|.loop<|.seq (.seq (.ops false [⟨none,[.m 14 9,.f 15 7 3,.l 16 15,.ll 17 16,.b 18 .lss 14 17,.m 19 18]⟩,⟨some (19,true),[.f 20 7 3,.l 21 20,.m 22 9,.ia 23 2 21 22,.f 24 0 23,.l 25 24,.m 26 1,.b 27 .lss 25 26]⟩,⟨none,[.pf 28 19 27]⟩])<|.cond (.t 28) (.skip) (.exit 0))<|.block 1<|.n [.m 29 8,.f 30 7 3,.l 31 30,.m 32 9,.ia 33 2 31 32,.load (some 34) false 2 true (.t 33),.mkl (some 35) 2 [.t 34],.app 36 (T 38) 2 (.t 29) (.t 35),.m 8 36]<|.o [.m 37 9,.bi 38 .add 37 1,.m 9 38])<|.seq (.ops false [⟨none,[.m 39 9,.f 40 7 3,.l 41 40,.ll 42 41,.b 43 .lss 39 42,.m 44 43]⟩,⟨some (44,true),[.f 45 7 3,.l 46 45,.m 47 9,.ia 48 2 46 47,.f 49 0 48,.l 50 49,.m 51 1,.b 52 .eql 50 51]⟩,⟨none,[.pf 53 44 52,.m 10 53]⟩])<|.seq (.seq (.ops false [⟨none,[.m 54 10,.un (some 55) .not (.t 54),.m 56 55]⟩,⟨some (56,true),[.f 57 7 3,.l 58 57,.ll 59 58,.bi 60 .geq 59 60]⟩,⟨none,[.pf 61 56 60]⟩])<|.cond (.t 61) (.n [.load (some 62) false 8 true (.t 3),.store 8 (.t 6) (.t 62),.mov (some 7) (.i 8)]<|.ret) (.skip))<|.n [.m 63 8,.m 64 1,.m 65 2,.build (some 66) [(.str []),(.int .i64 0)] [(0,1,(.t 64)),(1,1,(.t 65))],.mkl (some 67) 2 [.t 66],.app 68 (T 38) 2 (.t 63) (.t 67),.m 8 68]<|.seq (.n [.m 69 10]<|.cond (.t 69) (.o [.m 70 9,.bi 71 .add 70 1,.m 9 71]) (.skip))<|.n [.m 72 8,.f 73 7 3,.l 74 73,.m 75 9,.slc (some 76) 2 (.t 74) (some (.t 75)) none,.app 77 (T 38) 2 (.t 72) (.t 76),.f 78 7 3,.store 1 (.t 78) (.t 77)]<|.n [.load (some 79) false 8 true (.t 3),.store 8 (.t 6) (.t 79),.mov (some 7) (.i 0)]<|.ret
abbrev bIq(P:Program)(F T:Nat->Nat):Prop:=Fn P (F 298) 80 [(6,(some (8,true))),(7,none)] (c298 F T)
def c317(F T:Nat->Nat):C:=.n [.box 2 (T 34) (.t 0),.mov (some 4) (.k (.bool false))]<|.seq (.seq (.ops false [⟨none,[.m 9 1,.ll 10 9,.bi 11 .lss 10 1,.m 12 11]⟩,⟨some (12,false),[.m 13 1,.ll 14 13,.bi 15 .gtr 14 40]⟩,⟨none,[.pt 16 12 15]⟩])<|.cond (.t 16) (.n [.mov (some 4) (.k (.bool false))]<|.ret) (.skip))<|.n [.mov (some 5) (.i 0),.mov (some 6) (.i 1)]<|.seq (.n [.mov (some 7) (.i 0)]<|.block 0<|.loop<|.seq (.n [.m 17 7,.m 18 1,.ll 19 18,.b 20 .lss 17 19]<|.cond (.t 20) (.skip) (.exit 0))<|.seq (.block 1<|.n [.m 23 1,.m 24 7,.ia 25 6 23 24,.load (some 26) false 6 true (.t 25),.alloc 8 (T 36) [(.int .i64 0),(.str []),(.str []),(.str []),(.int .i64 0),(.int .i64 0)],.store 6 (.t 8) (.t 26)]<|.seq (.seq (.ops false [⟨none,[.f 27 0 8,.l 28 27,.m 29 7,.bi 30 .add 29 1,.b 31 .neq 28 30,.m 32 31]⟩,⟨some (32,false),[.f 33 3 8,.l 34 33,.ls 35 34,.bi 36 .gtr 35 8192]⟩,⟨none,[.pt 37 32 36,.m 38 37]⟩,⟨some (38,false),[.f 39 2 8,.l 40 39,.ls 41 40,.bi 42 .gtr 41 200]⟩,⟨none,[.pt 43 38 42,.m 44 43]⟩,⟨some (44,false),[.f 45 1 8,.l 46 45,.c 47 (F 319) [.t 46],.un (some 48) .not (.t 47)]⟩,⟨none,[.pt 49 44 48,.m 50 49]⟩,⟨some (50,false),[.f 51 4 8,.l 52 51,.m 53 5,.b 54 .lss 52 53]⟩,⟨none,[.pt 55 50 54,.m 56 55]⟩,⟨some (56,false),[.f 57 4 8,.l 58 57,.f 59 1 2,.l 60 59,.b 61 .gtr 58 60]⟩,⟨none,[.pt 62 56 61,.m 63 62]⟩,⟨some (63,false),[.f 64 5 8,.l 65 64,.m 66 6,.b 67 .lss 65 66]⟩,⟨none,[.pt 68 63 67,.m 69 68]⟩,⟨some (69,false),[.f 70 5 8,.l 71 70,.f 72 0 2,.l 73 72,.b 74 .gtr 71 73]⟩,⟨none,[.pt 75 69 74]⟩])<|.cond (.t 75) (.n [.mov (some 4) (.k (.bool false))]<|.ret) (.skip))<|.p [.f 76 4 8,.l 77 76,.f 78 5 8,.l 79 78,.m 5 77,.m 6 79])<|.o [.m 21 7,.bi 22 .add 21 1,.m 7 22])<|.n [.mov (some 4) (.k (.bool true))]<|.ret
abbrev bD5(P:Program)(F T:Nat->Nat):Prop:=Fn P (F 317) 80 [(4,none)] (c317 F T)
def c302(F T:Nat->Nat):C:=.n [.box 1 (T 34) (.t 0),.mov (some 2) (.k (.bool false))]<|.seq (.seq (.ops false [⟨none,[.f 11 2 1,.l 12 11,.ll 13 12,.bi 14 .gtr 13 200,.m 15 14]⟩,⟨some (15,false),[.f 16 3 1,.l 17 16,.ll 18 17,.bi 19 .gtr 18 100]⟩,⟨none,[.pt 20 15 19]⟩])<|.cond (.t 20) (.n [.mov (some 2) (.k (.bool false))]<|.ret) (.skip))<|.seq (.n [.mov (some 3) (.i 0)]<|.block 0<|.loop<|.seq (.n [.m 21 3,.f 22 2 1,.l 23 22,.ll 24 23,.b 25 .lss 21 24]<|.cond (.t 25) (.skip) (.exit 0))<|.seq (.block 1<|.n [.f 28 2 1,.l 29 28,.m 30 3,.ia 31 3 29 30,.load (some 32) false 3 true (.t 31),.alloc 4 (T 35) [(.int .i64 0),(.str []),.nils],.store 3 (.t 4) (.t 32)]<|.seq (.ops true [⟨none,[.f 33 0 4,.load (some 34) false 2 true (.t 33),.c 35 (F 199) [.t 34],.un (some 36) .not (.t 35),.m 37 36]⟩,⟨some (37,false),[.load (some 38) false 8 true (.t 1),.f 39 2 4,.l 40 39,.c 41 (F 317) [.t 38,.t 40],.un (some 42) .not (.t 41)]⟩,⟨none,[.pt 43 37 42,.m 44 43]⟩,⟨some (44,false),[.m 45 3,.bi 46 .gtr 45 0,.m 47 46]⟩,⟨some (47,true),[.f 48 2 1,.l 49 48,.m 50 3,.bi 51 .sub 50 1,.ia 52 3 49 51,.f 53 0 52,.load (some 54) false 2 true (.t 53),.f 55 0 4,.load (some 56) false 2 true (.t 55),.c 57 (F 318) [.t 54,.t 56],.bi 58 .geq 57 0]⟩,⟨some (44,false),[.pf 59 47 58]⟩,⟨none,[.pt 60 44 59]⟩])<|.cond (.t 60) (.n [.mov (some 2) (.k (.bool false))]<|.ret) (.skip))<|.o [.m 26 3,.bi 27 .add 26 1,.m 3 27])<|.seq (.n [.mov (some 5) (.i 0)]<|.block 2<|.loop<|.seq (.n [.m 61 5,.f 62 3 1,.l 63 62,.ll 64 63,.b 65 .lss 61 64]<|.cond (.t 65) (.skip) (.exit 2))<|.seq (.block 3<|.seq (.ops true [⟨none,[.f 68 3 1,.l 69 68,.m 70 5,.ia 71 3 69 70,.f 72 0 71,.load (some 73) false 2 true (.t 72),.c 74 (F 199) [.t 73],.un (some 75) .not (.t 74),.m 76 75]⟩,⟨some (76,false),[.load (some 77) false 8 true (.t 1),.f 78 3 1,.l 79 78,.m 80 5,.ia 81 3 79 80,.f 82 2 81,.l 83 82,.c 84 (F 317) [.t 77,.t 83],.un (some 85) .not (.t 84)]⟩,⟨none,[.pt 86 76 85]⟩])<|.cond (.t 86) (.n [.mov (some 2) (.k (.bool false))]<|.ret) (.skip))<|.o [.m 66 5,.bi 67 .add 66 1,.m 5 67])<|.seq (.seq (.p [.load (some 88) false 8 true (.t 1),.c 89 (F 315) [],.c 90 (F 299) [.t 88,.t 89],.m 87 90,.x 91 0 87,.x 92 1 87,.alloc 6 (T 35) [(.int .i64 0),(.str []),.nils],.store 3 (.t 6) (.t 91),.m 7 92])<|.n [.m 93 7]<|.cond (.t 93) (.n [.load (some 95) false 3 true (.t 6),.c 96 (F 301) [.t 95],.field (some 97) 3 1 false (.t 96),.c 98 (F 316) [.t 97],.m 94 98,.x 99 0 94,.x 100 1 94,.x 101 2 94,.alloc 8 (T 16) [.nils,.nils,.nils],.store 3 (.t 8) (.t 99),.m 9 100,.m 10 101]<|.n [.m 102 10,.bi 103 .eql 102 0,.m 2 103]<|.ret) (.skip))<|.n [.mov (some 2) (.k (.bool true))]<|.ret
abbrev bHe(P:Program)(F T:Nat->Nat):Prop:=Fn P (F 302) 104 [(2,none)] (c302 F T)
def c303(F T:Nat->Nat):C:=.n [.box 1 (T 34) (.t 0),.mov (some 2) (.k (.bool false))]<|.seq (.seq (.ops false [⟨none,[.f 6 4 1,.l 7 6,.ll 8 7,.bi 9 .gtr 8 40,.m 10 9]⟩,⟨some (10,false),[.f 11 5 1,.l 12 11,.bi 13 .lss 12 0]⟩,⟨none,[.pt 14 10 13,.m 15 14]⟩,⟨some (15,false),[.f 16 5 1,.l 17 16,.bi 18 .gtr 17 1073741824]⟩,⟨none,[.pt 19 15 18]⟩])<|.cond (.t 19) (.n [.mov (some 2) (.k (.bool false))]<|.ret) (.skip))<|.n [.mov (some 3) (.i 0)]<|.seq (.n [.mov (some 4) (.i 0)]<|.block 0<|.loop<|.seq (.n [.m 20 4,.f 21 4 1,.l 22 21,.ll 23 22,.b 24 .lss 20 23]<|.cond (.t 24) (.skip) (.exit 0))<|.seq (.block 1<|.n [.f 27 4 1,.l 28 27,.m 29 4,.ia 30 8 28 29,.load (some 31) false 8 true (.t 30),.alloc 5 (T 39) [(.int .i64 0),(.str []),(.str []),(.int .i64 0),(.str []),(.int .i64 0),(.str []),(.int .i64 0)],.store 8 (.t 5) (.t 31)]<|.seq (.seq (.ops false [⟨none,[.f 32 0 5,.l 33 32,.m 34 3,.b 35 .leq 33 34,.m 36 35]⟩,⟨some (36,false),[.f 37 0 5,.l 38 37,.f 39 5 1,.l 40 39,.b 41 .gtr 38 40]⟩,⟨none,[.pt 42 36 41,.m 43 42]⟩,⟨some (43,false),[.f 44 1 5,.l 45 44,.c 46 (F 319) [.t 45],.un (some 47) .not (.t 46)]⟩,⟨none,[.pt 48 43 47,.m 49 48]⟩,⟨some (49,false),[.f 50 3 5,.load (some 51) false 2 true (.t 50),.c 52 (F 199) [.t 51],.un (some 53) .not (.t 52)]⟩,⟨none,[.pt 54 49 53,.m 55 54]⟩,⟨some (55,false),[.f 56 5 5,.l 57 56,.bi 58 .lss 57 0]⟩,⟨none,[.pt 59 55 58,.m 60 59]⟩,⟨some (60,false),[.f 61 5 5,.l 62 61,.bi 63 .gtr 62 40]⟩,⟨none,[.pt 64 60 63,.m 65 64]⟩,⟨some (65,false),[.f 66 6 5,.l 67 66,.ls 68 67,.bi 69 .gtr 68 8192]⟩,⟨none,[.pt 70 65 69,.m 71 70]⟩,⟨some (71,false),[.f 72 2 5,.l 73 72,.ls 74 73,.bi 75 .gtr 74 200]⟩,⟨none,[.pt 76 71 75,.m 77 76]⟩,⟨some (77,false),[.f 78 7 5,.l 79 78,.bi 80 .lss 79 0]⟩,⟨none,[.pt 81 77 80,.m 82 81]⟩,⟨some (82,false),[.f 83 7 5,.l 84 83,.f 85 1 1,.l 86 85,.b 87 .gtr 84 86]⟩,⟨none,[.pt 88 82 87]⟩])<|.cond (.t 88) (.n [.mov (some 2) (.k (.bool false))]<|.ret) (.skip))<|.o [.f 89 0 5,.l 90 89,.m 3 90])<|.o [.m 25 4,.bi 26 .add 25 1,.m 4 26])<|.n [.mov (some 2) (.k (.bool true))]<|.ret
abbrev bI6(P:Program)(F T:Nat->Nat):Prop:=Fn P (F 303) 91 [(2,none)] (c303 F T)
def c304(F T:Nat->Nat):C:=.n [.box 1 (T 34) (.t 0),.mov (some 2) (.k (.bool false))]<|.seq (.seq (.ops false [⟨none,[.f 7 6 1,.l 8 7,.ll 9 8,.bi 10 .gtr 9 100,.m 11 10]⟩,⟨some (11,false),[.f 12 7 1,.l 13 12,.ll 14 13,.bi 15 .gtr 14 60]⟩,⟨none,[.pt 16 11 15]⟩])<|.cond (.t 16) (.n [.mov (some 2) (.k (.bool false))]<|.ret) (.skip))<|.seq (.n [.mov (some 3) (.i 0)]<|.block 0<|.loop<|.seq (.n [.m 17 3,.f 18 6 1,.l 19 18,.ll 20 19,.b 21 .lss 17 20]<|.cond (.t 21) (.skip) (.exit 0))<|.seq (.block 1<|.n [.f 24 6 1,.l 25 24,.m 26 3,.ia 27 3 25 26,.load (some 28) false 3 true (.t 27),.alloc 4 (T 40) [(.str []),(.int .i64 0),(.str [])],.store 3 (.t 4) (.t 28)]<|.seq (.ops true [⟨none,[.f 29 0 4,.l 30 29,.c 31 (F 217) [.t 30],.un (some 32) .not (.t 31),.m 33 32]⟩,⟨some (33,false),[.f 34 1 4,.load (some 35) false 2 true (.t 34),.c 36 (F 199) [.t 35],.un (some 37) .not (.t 36)]⟩,⟨none,[.pt 38 33 37,.m 39 38]⟩,⟨some (39,false),[.m 40 3,.bi 41 .gtr 40 0,.m 42 41]⟩,⟨some (42,true),[.f 43 6 1,.l 44 43,.m 45 3,.bi 46 .sub 45 1,.ia 47 3 44 46,.load (some 48) false 3 true (.t 47),.load (some 49) false 3 true (.t 4),.c 50 (F 320) [.t 48,.t 49],.un (some 51) .not (.t 50)]⟩,⟨some (39,false),[.pf 52 42 51]⟩,⟨none,[.pt 53 39 52]⟩])<|.cond (.t 53) (.n [.mov (some 2) (.k (.bool false))]<|.ret) (.skip))<|.o [.m 22 3,.bi 23 .add 22 1,.m 3 23])<|.seq (.n [.mov (some 5) (.i 0)]<|.block 2<|.loop<|.seq (.n [.m 54 5,.f 55 7 1,.l 56 55,.ll 57 56,.b 58 .lss 54 57]<|.cond (.t 58) (.skip) (.exit 2))<|.seq (.block 3<|.n [.f 61 7 1,.l 62 61,.m 63 5,.ia 64 2 62 63,.load (some 65) false 2 true (.t 64),.alloc 6 (T 38) [(.str []),(.int .i64 0)],.store 2 (.t 6) (.t 65)]<|.seq (.ops true [⟨none,[.f 66 0 6,.l 67 66,.c 68 (F 217) [.t 67],.un (some 69) .not (.t 68),.m 70 69]⟩,⟨some (70,false),[.f 71 1 6,.l 72 71,.bi 73 .lss 72 1]⟩,⟨none,[.pt 74 70 73,.m 75 74]⟩,⟨some (75,false),[.f 76 1 6,.l 77 76,.f 78 0 1,.l 79 78,.b 80 .gtr 77 79]⟩,⟨none,[.pt 81 75 80,.m 82 81]⟩,⟨some (82,false),[.m 83 5,.bi 84 .gtr 83 0,.m 85 84]⟩,⟨some (85,true),[.f 86 7 1,.l 87 86,.m 88 5,.bi 89 .sub 88 1,.ia 90 2 87 89,.f 91 0 90,.l 92 91,.f 93 0 6,.l 94 93,.b 95 .geq 92 94]⟩,⟨some (82,false),[.pf 96 85 95]⟩,⟨none,[.pt 97 82 96]⟩])<|.cond (.t 97) (.n [.mov (some 2) (.k (.bool false))]<|.ret) (.skip))<|.o [.m 59 5,.bi 60 .add 59 1,.m 5 60])<|.n [.mov (some 2) (.k (.bool true))]<|.ret
abbrev bIi(P:Program)(F T:Nat->Nat):Prop:=Fn P (F 304) 98 [(2,none)] (c304 F T)
def c294(F T:Nat->Nat):C:=.n [.box 1 (T 34) (.t 0),.mov (some 2) (.k (.bool false))]<|.seq (.seq (.ops false [⟨none,[.f 3 0 1,.l 4 3,.bi 5 .lss 4 0,.m 6 5]⟩,⟨some (6,false),[.f 7 0 1,.l 8 7,.bi 9 .gtr 8 1073741824]⟩,⟨none,[.pt 10 6 9,.m 11 10]⟩,⟨some (11,false),[.f 12 1 1,.l 13 12,.bi 14 .lss 13 0]⟩,⟨none,[.pt 15 11 14,.m 16 15]⟩,⟨some (16,false),[.f 17 1 1,.l 18 17,.bi 19 .gtr 18 52595999]⟩,⟨none,[.pt 20 16 19]⟩])<|.cond (.t 20) (.n [.mov (some 2) (.k (.bool false))]<|.ret) (.skip))<|.seq (.ops false [⟨none,[.load (some 21) false 8 true (.t 1),.c 22 (F 302) [.t 21],.m 23 22]⟩,⟨some (23,true),[.load (some 24) false 8 true (.t 1),.c 25 (F 303) [.t 24]]⟩,⟨none,[.pf 26 23 25,.m 27 26]⟩,⟨some (27,true),[.load (some 28) false 8 true (.t 1),.c 29 (F 304) [.t 28]]⟩,⟨none,[.pf 30 27 29,.m 2 30]⟩])<|.ret
abbrev bJt(P:Program)(F T:Nat->Nat):Prop:=Fn P (F 294) 31 [(2,none)] (c294 F T)
def c305(F T:Nat->Nat):C:=.n [.box 1 (T 37) (.t 0),.mov (some 2) (.k (.bool false))]<|.seq (.ops false [⟨none,[.f 6 0 1,.l 7 6,.bi 8 .eql 7 1,.m 9 8]⟩,⟨some (9,false),[.f 10 0 1,.l 11 10,.bi 12 .eql 11 9]⟩,⟨none,[.pt 13 9 12,.m 3 13]⟩])<|.seq (.ops false [⟨none,[.f 14 0 1,.l 15 14,.bi 16 .eql 15 4,.m 17 16]⟩,⟨some (17,false),[.f 18 0 1,.l 19 18,.bi 20 .eql 19 6]⟩,⟨none,[.pt 21 17 20,.m 22 21]⟩,⟨some (22,false),[.f 23 0 1,.l 24 23,.bi 25 .eql 24 9]⟩,⟨none,[.pt 26 22 25,.m 27 26]⟩,⟨some (27,false),[.f 28 0 1,.l 29 28,.bi 30 .eql 29 10]⟩,⟨none,[.pt 31 27 30,.m 4 31]⟩])<|.seq (.ops false [⟨none,[.f 32 0 1,.l 33 32,.bi 34 .neq 33 6,.m 35 34]⟩,⟨some (35,true),[.f 36 0 1,.l 37 36,.bi 38 .neq 37 10]⟩,⟨none,[.pf 39 35 38,.m 5 39]⟩])<|.seq (.seq (.ops false [⟨none,[.f 40 0 1,.l 41 40,.bi 42 .lss 41 1,.m 43 42]⟩,⟨some (43,false),[.f 44 0 1,.l 45 44,.bi 46 .gtr 45 10]⟩,⟨none,[.pt 47 43 46]⟩])<|.cond (.t 47) (.n [.mov (some 2) (.k (.bool false))]<|.ret) (.skip))<|.seq (.seq (.ops false [⟨none,[.m 48 3,.un (some 49) .not (.t 48),.m 50 49]⟩,⟨some (50,true),[.f 51 2 1,.l 52 51,.bin (some 53) .neq (.t 52) (.s []),.m 54 53]⟩,⟨some (54,false),[.f 55 7 1,.l 56 55,.bin (some 57) .neq (.t 56) (.s [])]⟩,⟨some (50,true),[.pt 58 54 57]⟩,⟨none,[.pf 59 50 58,.m 60 59]⟩,⟨some (60,false),[.m 61 4,.un (some 62) .not (.t 61),.m 63 62]⟩,⟨some (63,true),[.f 64 8 1,.l 65 64,.bi 66 .neq 65 0]⟩,⟨some (60,false),[.pf 67 63 66]⟩,⟨none,[.pt 68 60 67,.m 69 68]⟩,⟨some (69,false),[.m 70 5,.un (some 71) .not (.t 70),.m 72 71]⟩,⟨some (72,true),[.f 73 3 1,.load (some 74) false 2 true (.t 73),.build (some 75) [(.int .i64 0),(.str [])] [],.eqA (some 76) true [0,1] (.t 74) (.t 75)]⟩,⟨some (69,false),[.pf 77 72 76]⟩,⟨none,[.pt 78 69 77]⟩])<|.cond (.t 78) (.n [.mov (some 2) (.k (.bool false))]<|.ret) (.skip))<|.seq (.seq (.ops false [⟨none,[.f 79 0 1,.l 80 79,.bi 81 .eql 80 6,.m 82 81]⟩,⟨some (82,true),[.f 83 1 1,.l 84 83,.bin (some 85) .neq (.t 84) (.s [])]⟩,⟨none,[.pf 86 82 85]⟩])<|.cond (.t 86) (.n [.mov (some 2) (.k (.bool false))]<|.ret) (.skip))<|.seq (.ops false [⟨none,[.f 87 0 1,.l 88 87,.bi 89 .eql 88 4,.m 90 89]⟩,⟨some (90,false),[.f 91 5 1,.load (some 92) false 2 true (.t 91),.build (some 93) [(.int .i64 0),(.str [])] [],.eqA (some 94) false [0,1] (.t 92) (.t 93)]⟩,⟨none,[.pt 95 90 94,.m 96 95]⟩,⟨some (96,true),[.f 97 0 1,.l 98 97,.bi 99 .eql 98 5,.m 100 99]⟩,⟨some (100,false),[.f 101 9 1,.l 102 101,.ll 103 102,.bi 104 .eql 103 0]⟩,⟨some (96,true),[.pt 105 100 104]⟩,⟨none,[.pf 106 96 105,.m 2 106]⟩])<|.ret
abbrev bLv(P:Program)(F T:Nat->Nat):Prop:=Fn P (F 305) 107 [(2,none)] (c305 F T)
def c306(F T:Nat->Nat):C:=.n [.box 1 (T 37) (.t 0),.mov (some 2) (.k (.bool false))]<|.seq (.seq (.ops false [⟨none,[.f 3 0 1,.l 4 3,.bi 5 .neq 4 6,.m 6 5]⟩,⟨some (6,true),[.f 7 0 1,.l 8 7,.bi 9 .neq 8 10]⟩,⟨none,[.pf 10 6 9,.m 11 10]⟩,⟨some (11,true),[.f 12 3 1,.load (some 13) false 2 true (.t 12),.c 14 (F 199) [.t 13],.un (some 15) .not (.t 14)]⟩,⟨none,[.pf 16 11 15,.m 17 16]⟩,⟨some (17,false),[.f 18 1 1,.l 19 18,.c 20 (F 321) [.t 19],.un (some 21) .not (.t 20)]⟩,⟨none,[.pt 22 17 21]⟩])<|.cond (.t 22) (.n [.mov (some 2) (.k (.bool false))]<|.ret) (.skip))<|.seq (.n [.f 23 0 1,.l 24 23]<|.block 0<|.seq (.n [.bi 26 .eql 24 7,.m 25 26]<|.cond (.t 25) (.skip) (.o [.bi 27 .eql 24 8,.m 25 27]))<|.cond (.t 25) (.n [.f 28 1 1,.l 29 28,.bin (some 30) .neq (.t 29) (.s []),.m 2 30]<|.ret) (.n [.bi 32 .eql 24 4,.m 31 32]<|.cond (.t 31) (.seq (.ops false [⟨none,[.f 33 5 1,.load (some 34) false 2 true (.t 33),.c 35 (F 199) [.t 34],.m 36 35]⟩,⟨some (36,true),[.f 37 8 1,.l 38 37,.bi 39 .eql 38 0,.m 40 39]⟩,⟨some (40,false),[.f 41 8 1,.l 42 41,.bi 43 .eql 42 1]⟩,⟨some (36,true),[.pt 44 40 43]⟩,⟨none,[.pf 45 36 44,.m 2 45]⟩])<|.ret) (.n [.bi 47 .eql 24 6,.m 46 47]<|.cond (.t 46) (.seq (.ops false [⟨none,[.f 48 8 1,.l 49 48,.bi 50 .geq 49 1,.m 51 50]⟩,⟨some (51,true),[.f 52 8 1,.l 53 52,.bi 54 .leq 53 52596000]⟩,⟨none,[.pf 55 51 54,.m 2 55]⟩])<|.ret) (.n [.bi 57 .eql 24 9,.m 56 57]<|.cond (.t 56) (.seq (.ops false [⟨none,[.f 58 8 1,.l 59 58,.bi 60 .geq 59 0,.m 61 60]⟩,⟨some (61,true),[.f 62 8 1,.l 63 62,.bi 64 .leq 63 40]⟩,⟨none,[.pf 65 61 64,.m 2 65]⟩])<|.ret) (.n [.bi 67 .eql 24 10,.m 66 67]<|.cond (.t 66) (.seq (.ops false [⟨none,[.f 68 8 1,.l 69 68,.bi 70 .geq 69 1,.m 71 70]⟩,⟨some (71,true),[.f 72 8 1,.l 73 72,.bi 74 .leq 73 1073741824]⟩,⟨none,[.pf 75 71 74,.m 2 75]⟩])<|.ret) (.n [.bi 77 .eql 24 5,.m 76 77]<|.cond (.t 76) (.n [.f 78 9 1,.l 79 78,.c 80 (F 322) [.t 79],.m 2 80]<|.ret) (.skip)))))))<|.n [.mov (some 2) (.k (.bool true))]<|.ret
abbrev bKw(P:Program)(F T:Nat->Nat):Prop:=Fn P (F 306) 81 [(2,none)] (c306 F T)
def c322(F T:Nat->Nat):C:=.n [.mov (some 2) (.k (.bool false))]<|.seq (.seq (.ops false [⟨none,[.m 5 0,.ll 6 5,.bi 7 .lss 6 1,.m 8 7]⟩,⟨some (8,false),[.m 9 0,.ll 10 9,.bi 11 .gtr 10 40]⟩,⟨none,[.pt 12 8 11]⟩])<|.cond (.t 12) (.n [.mov (some 2) (.k (.bool false))]<|.ret) (.skip))<|.seq (.n [.mov (some 3) (.i 0)]<|.block 0<|.loop<|.seq (.n [.m 13 3,.m 14 0,.ll 15 14,.b 16 .lss 13 15]<|.cond (.t 16) (.skip) (.exit 0))<|.seq (.block 1<|.n [.m 19 0,.m 20 3,.ia 21 6 19 20,.load (some 22) false 6 true (.t 21),.alloc 4 (T 36) [(.int .i64 0),(.str []),(.str []),(.str []),(.int .i64 0),(.int .i64 0)],.store 6 (.t 4) (.t 22)]<|.seq (.ops true [⟨none,[.f 23 0 4,.l 24 23,.m 25 3,.bi 26 .add 25 1,.b 27 .neq 24 26,.m 28 27]⟩,⟨some (28,false),[.f 29 5 4,.l 30 29,.bi 31 .neq 30 0]⟩,⟨none,[.pt 32 28 31,.m 33 32]⟩,⟨some (33,false),[.f 34 1 4,.l 35 34,.c 36 (F 321) [.t 35],.un (some 37) .not (.t 36)]⟩,⟨none,[.pt 38 33 37,.m 39 38]⟩,⟨some (39,false),[.f 40 4 4,.l 41 40,.bi 42 .lss 41 0]⟩,⟨none,[.pt 43 39 42,.m 44 43]⟩,⟨some (44,false),[.f 45 4 4,.l 46 45,.bi 47 .gtr 46 52595999]⟩,⟨none,[.pt 48 44 47,.m 49 48]⟩,⟨some (49,false),[.m 50 3,.bi 51 .gtr 50 0,.m 52 51]⟩,⟨some (52,true),[.f 53 4 4,.l 54 53,.m 55 0,.m 56 3,.bi 57 .sub 56 1,.ia 58 6 55 57,.f 59 4 58,.l 60 59,.b 61 .lss 54 60]⟩,⟨some (49,false),[.pf 62 52 61]⟩,⟨none,[.pt 63 49 62]⟩])<|.cond (.t 63) (.n [.mov (some 2) (.k (.bool false))]<|.ret) (.skip))<|.o [.m 17 3,.bi 18 .add 17 1,.m 3 18])<|.n [.mov (some 2) (.k (.bool true))]<|.ret
abbrev bDu(P:Program)(F T:Nat->Nat):Prop:=Fn P (F 322) 64 [(2,none)] (c322 F T)
def c295(F T:Nat->Nat):C:=.n [.box 1 (T 37) (.t 0),.mov (some 2) (.i 0)]<|.seq (.n [.load (some 4) false 10 true (.t 1),.c 5 (F 305) [.t 4],.un (some 6) .not (.t 5)]<|.cond (.t 6) (.n [.mov (some 2) (.i 7)]<|.ret) (.skip))<|.seq (.n [.load (some 7) false 10 true (.t 1),.c 8 (F 306) [.t 7],.un (some 9) .not (.t 8)]<|.cond (.t 9) (.n [.mov (some 2) (.i 2)]<|.ret) (.skip))<|.seq (.seq (.ops false [⟨none,[.f 10 7 1,.l 11 10,.ls 12 11,.bi 13 .gtr 12 8192,.m 14 13]⟩,⟨some (14,false),[.f 15 2 1,.l 16 15,.ls 17 16,.bi 18 .gtr 17 200]⟩,⟨none,[.pt 19 14 18]⟩])<|.cond (.t 19) (.n [.mov (some 2) (.i 3)]<|.ret) (.skip))<|.seq (.n [.mov (some 3) (.i 0)]<|.block 0<|.loop<|.seq (.n [.m 20 3,.f 21 9 1,.l 22 21,.ll 23 22,.b 24 .lss 20 23]<|.cond (.t 24) (.skip) (.exit 0))<|.seq (.block 1<|.seq (.ops false [⟨none,[.f 27 9 1,.l 28 27,.m 29 3,.ia 30 6 28 29,.f 31 3 30,.l 32 31,.ls 33 32,.bi 34 .gtr 33 8192,.m 35 34]⟩,⟨some (35,false),[.f 36 9 1,.l 37 36,.m 38 3,.ia 39 6 37 38,.f 40 2 39,.l 41 40,.ls 42 41,.bi 43 .gtr 42 200]⟩,⟨none,[.pt 44 35 43]⟩])<|.cond (.t 44) (.n [.mov (some 2) (.i 3)]<|.ret) (.skip))<|.o [.m 25 3,.bi 26 .add 25 1,.m 3 26])<|.n [.mov (some 2) (.i 0)]<|.ret
abbrev bLe(P:Program)(F T:Nat->Nat):Prop:=Fn P (F 295) 45 [(2,none)] (c295 F T)
def c293(F T:Nat->Nat):C:=.n [.box 2 (T 34) (.t 0),.alloc 4 (T 34) [(.int .i64 0),(.int .i64 0),.nils,.nils,.nils,(.int .i64 0),.nils,.nils],.mov (some 5) (.i 0)]<|.seq (.n [.load (some 11) false 8 true (.t 2),.c 12 (F 294) [.t 11],.un (some 13) .not (.t 12)]<|.cond (.t 13) (.n [.build (some 14) [(.int .i64 0),(.int .i64 0),.nils,.nils,.nils,(.int .i64 0),.nils,.nils] [],.store 8 (.t 4) (.t 14),.mov (some 5) (.i 11)]<|.ret) (.skip))<|.seq (.seq (.ops false [⟨none,[.m 15 1,.ll 16 15,.bi 17 .lss 16 1,.m 18 17]⟩,⟨some (18,false),[.m 19 1,.ll 20 19,.bi 21 .gtr 20 16]⟩,⟨none,[.pt 22 18 21]⟩])<|.cond (.t 22) (.n [.build (some 23) [(.int .i64 0),(.int .i64 0),.nils,.nils,.nils,(.int .i64 0),.nils,.nils] [],.store 8 (.t 4) (.t 23),.mov (some 5) (.i 2)]<|.ret) (.skip))<|.n [.f 24 0 2,.l 25 24,.bi 26 .add 25 1,.m 6 26]<|.seq (.n [.mov (some 7) (.i 0)]<|.block 0<|.loop<|.seq (.n [.m 27 7,.m 28 1,.ll 29 28,.b 30 .lss 27 29]<|.cond (.t 30) (.skip) (.exit 0))<|.seq (.block 1<|.seq (.n [.m 33 1,.m 34 7,.ia 35 10 33 34,.load (some 36) false 10 true (.t 35),.c 37 (F 295) [.t 36],.m 8 37]<|.n [.m 38 8,.bi 39 .neq 38 0]<|.cond (.t 39) (.n [.build (some 40) [(.int .i64 0),(.int .i64 0),.nils,.nils,.nils,(.int .i64 0),.nils,.nils] [],.m 41 8,.store 8 (.t 4) (.t 40),.m 5 41]<|.ret) (.skip))<|.seq (.p [.load (some 43) false 8 true (.t 2),.m 44 1,.m 45 7,.ia 46 10 44 45,.load (some 47) false 10 true (.t 46),.m 48 6,.c 49 (F 296) [.t 43,.t 47,.t 48],.m 42 49,.x 50 0 42,.x 51 1 42,.alloc 9 (T 34) [(.int .i64 0),(.int .i64 0),.nils,.nils,.nils,(.int .i64 0),.nils,.nils],.store 8 (.t 9) (.t 50),.m 10 51])<|.seq (.n [.m 52 10,.bi 53 .neq 52 0]<|.cond (.t 53) (.n [.build (some 54) [(.int .i64 0),(.int .i64 0),.nils,.nils,.nils,(.int .i64 0),.nils,.nils] [],.m 55 10,.store 8 (.t 4) (.t 54),.m 5 55]<|.ret) (.skip))<|.seq (.n [.m 56 1,.m 57 7,.ia 58 10 56 57,.load (some 59) false 10 true (.t 58),.c 60 (F 297) [.t 59]]<|.cond (.t 60) (.n [.build (some 61) [(.int .i64 0),(.int .i64 0),.nils,.nils,.nils,(.int .i64 0),.nils,.nils] [],.store 8 (.t 4) (.t 61),.mov (some 5) (.i 7)]<|.ret) (.skip))<|.seq (.p [.load (some 63) false 8 true (.t 9),.m 64 1,.m 65 7,.ia 66 10 64 65,.f 67 1 66,.l 68 67,.m 69 6,.c 70 (F 298) [.t 63,.t 68,.t 69],.m 62 70,.x 71 0 62,.x 72 1 62,.store 8 (.t 2) (.t 71),.m 10 72])<|.n [.m 73 10,.bi 74 .neq 73 0]<|.cond (.t 74) (.n [.build (some 75) [(.int .i64 0),(.int .i64 0),.nils,.nils,.nils,(.int .i64 0),.nils,.nils] [],.m 76 10,.store 8 (.t 4) (.t 75),.m 5 76]<|.ret) (.skip))<|.o [.m 31 7,.bi 32 .add 31 1,.m 7 32])<|.seq (.n [.m 77 6,.bi 78 .gtr 77 1073741824]<|.cond (.t 78) (.n [.build (some 79) [(.int .i64 0),(.int .i64 0),.nils,.nils,.nils,(.int .i64 0),.nils,.nils] [],.store 8 (.t 4) (.t 79),.mov (some 5) (.i 8)]<|.ret) (.skip))<|.n [.m 80 6,.f 81 0 2,.store 1 (.t 81) (.t 80)]<|.n [.load (some 82) false 8 true (.t 2),.store 8 (.t 4) (.t 82),.mov (some 5) (.i 0)]<|.ret
abbrev bJc(P:Program)(F T:Nat->Nat):Prop:=Fn P (F 293) 83 [(4,(some (8,true))),(5,none)] (c293 F T)
variable {P:Program} {F T:Nat->Nat}
theorem aN4{L:Heap}{n i ty z sz:Nat}{es:List V}(h:L i=some (.vec ty z es))(hi:V.imms es=true):view L (n+1) (.own i sz 0 es.length)=.lst sz es:=by
 simp only[view,h,Nat.zero_add,Nat.le_refl,if_true,yn,zu];rw[show es.map (view L n)=es.map id from List.map_congr_left λx hx=>aAb n x (aBh hi hx),List.map_id]
theorem aBd(l:List Rev):(revV l).imm=true:=by simp only[revV,V.imm];exact aA2 _ _ λ_=>rfl
theorem aF4(p:Sto):p.v.imm=true:=by simp[Sto.v,V.imm,V.imms,aBd]
theorem aAh(l:List Sto):V.imms (l.map Sto.v)=true:=aA2 _ _ aF4
theorem aIl{l:List Sto}{i:Nat}(h:i<l.length):(l.map Sto.v).getD i .junk=(l.getD i zSto).v:=by
 grind
theorem t318(hf:aI8 P F T)(a b:Ttl):PTr P (F 318) [tV a,tV b] (.int .i64 (cmpF a b)):=by
 obtain⟨a1,a2⟩:=a;obtain⟨b1,b2⟩:=b;refine ptrC [] hf (by simp) rfl ?_;simp only[c318,push_cast,seval,-Nat.reducePow,tV,tCs];by_cases h1:a1<b1
 .have e:cmpF (a1,a2) (b1,b2)=-1:=by simp[cmpF,h1]
  rw[e];simp only[push_cast,seval,-Nat.reducePow,h1];rfl
 .by_cases h2:a1=b1
  .subst h2;by_cases h3:Op.bytesLess a2 b2=true
   .have e:cmpF (a1,a2) (a1,b2)=-1:=by simp[cmpF,h3]
    rw[e];simp only[push_cast,seval,-Nat.reducePow,h1,h3];rfl
   .have h3':Op.bytesLess a2 b2=false:=by grind
    by_cases h4:a2=b2
    .subst h4;have e:cmpF (a1,a2) (a1,a2)=0:=by simp[cmpF,h3']
     rw[e];simp only[push_cast,seval,-Nat.reducePow,h1,h3'];rfl
    .have e:cmpF (a1,a2) (a1,b2)=1:=by simp[cmpF,h3',h4]
     rw[e];simp only[push_cast,seval,-Nat.reducePow,h1,h3'];refine aAy (λh=>absurd h h4) λ_=>?_;rfl
  .have e:cmpF (a1,a2) (b1,b2)=1:=by simp[cmpF,h1,h2]
   rw[e];simp only[push_cast,seval,-Nat.reducePow,h1,h2];rw[Bool.false_and,aJu];rfl
def ixI:Option Nat->Int
 | some i=>i
 | none=>-1
theorem aJl(t:Ttl):∀(a r:List Sto),(∀p,p∈a->p.t≠t)->aDn (a++r) t=(r.findIdx? λp=>decide (p.t=t)).map (·+a.length)
 | [],r,_=>by simp[aDn]
 | x::a,r,h=>by have ih:=aJl t a r λp hp=>h p (by grind);have hx:decide (x.t=t)=false:=decide_eq_false (h x (by simp));unfold aDn at ih ⊢;grind
theorem t300(hf:aH8 P F T)(l:List Sto)(t:Ttl)(hl:l.length<=2^31):PTr P (F 300) [.lst 3 (l.map Sto.v),tV t] (.int .i64 (ixI (aDn l t))):=by
 obtain⟨t1,t2⟩:=t;have hlen:(l.map Sto.v).length=l.length:=zb ..;refine ptrC [] hf (by simp) rfl ?_;simp only[c300,push_cast,seval,-Nat.reducePow,tV,tCs];refine aAd (λm s1=>∃a r,l=a++r∧m=r.length∧(∀p,p∈a->p.t≠(t1,t2))∧s1.env 0=.lst 3 (l.map Sto.v)∧s1.env 3=.ptr 3 0∧s1.env 5=.int .i64 a.length∧s1.L 3=some (.box (T 17) [.int .i64 t1,.str t2])∧3<s1.nx) l.length ⟨[],l,?_⟩ λm s1 hJ=>?_
 .simp only[push_cast,seval,-Nat.reducePow]
 .obtain⟨a,r,hal,rfl,hno,j0,j3,j5,jL,jn⟩:=hJ;have hfs:=aJl (t1,t2) a r hno;rw[<-hal]at hfs;cases r with
  | nil =>
    have h1:¬((a.length:Nat):Int)<((l.length:Nat):Int):=by grind
    simp only[push_cast,seval,-Nat.reducePow,j0,j3,j5,hlen,h1];rw[hfs];rfl
  | cons p r =>
    have h1:((a.length:Nat):Int)<((l.length:Nat):Int):=by grind
    have hg:(l.map Sto.v).getD a.length .junk=.agg [.int .i64 p.t.1,.str p.t.2,revV p.hist]:=by rw[hal];simp[ze,Sto.v]
    have hal2:l.length=a.length+(r.length+1):=by grind
    rw[List.findIdx?_cons]at hfs;simp only[push_cast,seval,-Nat.reducePow,j0,j3,j5,jL,hlen,h1,hg];refine⟨by omega,?_⟩;by_cases hp:p.t=(t1,t2)
    .have e1:p.t.1=t1:=by rw[hp]
     have e2:p.t.2=t2:=by rw[hp]
     rw[decide_eq_true hp]at hfs;simp only[push_cast,seval,-Nat.reducePow,e1,e2,j5];rw[hfs];simp[ixI,view]
    .rw[decide_eq_false hp]at hfs;have hd:(decide (p.t.1=t1)&&decide (p.t.2=t2))=false:=by
      grind
     simp only[push_cast,seval,-Nat.reducePow,hd,j0,j3,j5];refine⟨⟨by omega,by omega⟩,r.length,by omega,a++[p],r,by grind,rfl,λq hq=>?_,by simp,jL,by omega⟩;grind
theorem aZv(p:Sto):∀(a r:List Sto),(∀q,q∈a->cmpF q.t p.t<0)->insS (a++r) p=a++(r.takeWhile (λq=>decide (cmpF q.t p.t<0))++p::r.dropWhile (λq=>decide (cmpF q.t p.t<0)))
 | [],r,_=>rfl
 | x::a,r,h=>by have ih:=aZv p a r λq hq=>h q (by grind);have hx:=h x (by simp);unfold insS at ih ⊢;simp_all
theorem t323(hf:aRa P F T)(h318:aI8 P F T)(l:List Sto)(p:Sto)(hl:l.length<=2^30):PTr P (F 323) [.lst 3 (l.map Sto.v),p.v] (.lst 3 ((insS l p).map Sto.v)):=by
 have hlen:(l.map Sto.v).length=l.length:=zb ..;refine ptrC [] hf (by simp) (by simp only[V.imm];exact aAh _) ?_;have h1v:(revV p.hist).one=true:=rfl;simp only[c323,push_cast,seval,-Nat.reducePow,Sto.v,h1v];refine aAd (λm s1=>∃a r id,l=a++r∧m=r.length∧(∀q,q∈a->cmpF q.t p.t<0)∧s1.env 0=.lst 3 (l.map Sto.v)∧s1.env 3=.ptr 3 0∧s1.env 6=.int .i64 a.length∧s1.env 5=.own id 3 0 a.length∧s1.L id=some (.vec (T 35) 3 (a.map Sto.v))∧s1.L 3=some (.box (T 35) [.int .i64 p.t.1,.str p.t.2,revV p.hist])∧id≠3∧id<s1.nx∧3<s1.nx) l.length ?_ λm s1 hJ=>?_
 .simp only[push_cast,seval,-Nat.reducePow];exact⟨[],l,80,rfl,rfl,(by simp),rfl,rfl,aAe _ _ _,by decide,by decide⟩
 .obtain⟨a,r,id,hal,rfl,hcm,j0,j3,j6,j5,jL,j3L,hid3,hid,jn⟩:=hJ;have hal2:l.length=a.length+r.length:=by grind
  have tk:zA a.length (a.map Sto.v)=a.map Sto.v:=zj (by simp);have tk2:zA (a.length+1) (a.map Sto.v++[V.agg [V.int IntKind.i64 p.t.fst,V.str p.t.snd,revV p.hist]])=a.map Sto.v++[V.agg [V.int IntKind.i64 p.t.fst,V.str p.t.snd,revV p.hist]]:=zj (by simp);have hd:yK a.length (zA l.length (l.map Sto.v))=r.map Sto.v:=by grind
  have key:∀(M:Heap) (i n:Nat),M i=some (.vec (T 35) 3 ((insS l p).map Sto.v))->n=(insS l p).length->view M 3 (.own i 3 0 n)=.lst 3 ((insS l p).map Sto.v):=λM i n h1 h2=>by have:=aN4 (n:=2) (sz:=3) h1 (aAh _);grind
  have hgo:=aZv p a r hcm;rw[<-hal]at hgo;cases r with
  | nil =>
    have h1:¬((a.length:Nat):Int)<((l.length:Nat):Int):=by grind
    simp only[push_cast,seval,-Nat.reducePow,j0,j3,j5,j6,jL,j3L,hlen,h1,h1v,tk,tk2,hd];rw[List.takeWhile_nil,List.dropWhile_nil,yf]at hgo;refine⟨by simp,by omega,by omega,by simp,by omega,key _ _ _ ?_ ?_⟩
    .rw[aAe,hgo];simp[Sto.v]
    grind
  | cons x r =>
    have h1:((a.length:Nat):Int)<((l.length:Nat):Int):=by grind
    have hg:(l.map Sto.v).getD a.length .junk=.agg [.int .i64 x.t.1,.str x.t.2,revV x.hist]:=by rw[hal];simp[ze,Sto.v]
    rw[zg]at hal2;simp only[push_cast,seval,-Nat.reducePow,j0,j3,j5,j6,jL,j3L,hlen,h1,hg];refine⟨by omega,aAa (t318 h318 x.t p.t) (by rfl) (by rfl) ?_⟩;simp only[push_cast,seval,-Nat.reducePow,j0,j3,j5,j6,jL,j3L,hlen,h1,hg];by_cases hx:cmpF x.t p.t<0
    .simp only[push_cast,seval,-Nat.reducePow,hx,j0,j3,j5,j6,jL,j3L,hlen,h1,hg,tk];refine⟨by omega,rfl,by simp,by omega,⟨by omega,by omega⟩,r.length,by omega,a++[x],r,s1.nx+68,by grind,rfl,λq hq=>?_,by simp,by simp,?_,?_,by omega,by omega,by omega⟩
     .grind
     .rw[aAe];grind
     .rw[aAc _ _ _ _ (Ne.symm hid3)];omega
    .simp only[push_cast,seval,-Nat.reducePow,hx,j0,j3,j5,j6,jL,j3L,hlen,h1,h1v,tk,tk2,hd];rw[List.takeWhile_cons,List.dropWhile_cons,decide_eq_false hx]at hgo;simp only[Bool.false_eq_true,if_false,yf]at hgo;refine⟨by simp,by omega,by omega,by simp,by grind,key _ _ _ ?_ ?_⟩
     .rw[aAe,hgo];simp[Sto.v]
     grind
theorem bH7(p:Ppl):p.v.imm=true:=rfl
theorem aAv(l:List Wat):V.imms (l.map Wat.v)=true:=aA2 _ _ λ_=>rfl
theorem aAw(l:List Las):V.imms (l.map Las.v)=true:=aA2 _ _ λ_=>rfl
theorem aAo(l:List Ppl):V.imms (l.map Ppl.v)=true:=aA2 _ _ bH7
theorem t324(hf:aVc P F T)(l:List Sto)(i:Nat)(hi:i<l.length)(hl:l.length<=2^30):PTr P (F 324) [.lst 3 (l.map Sto.v),.int .i64 i] (.lst 3 ((wtoS l i).map Sto.v)):=by
 have hlen:(l.map Sto.v).length=l.length:=zb ..;refine ptrC [] hf (by simp) (by simp only[V.imm];exact aAh _) ?_;have h0:(0:Int)<=(i:Int)+1:=by omega
 have e1:((i:Int)+1).toNat=i+1:=by omega
 have e2:(zA i (l.map Sto.v)).length=i:=by grind
 have e3:zA l.length (l.map Sto.v)=l.map Sto.v:=by grind
 have e4:zA i (zA i (l.map Sto.v))=zA i (l.map Sto.v):=by grind
 have hw:(wtoS l i).map Sto.v=zA i (l.map Sto.v)++yK (i+1) (l.map Sto.v):=by simp[wtoS]
 have key:∀(M:Heap) (i2 n:Nat),M i2=some (.vec (T 35) 3 ((wtoS l i).map Sto.v))->n=(wtoS l i).length->view M 3 (.own i2 3 0 n)=.lst 3 ((wtoS l i).map Sto.v):=λM i2 n h1 h2=>by have:=aN4 (n:=2) (sz:=3) h1 (aAh _);grind
 simp only[c324,push_cast,seval,-Nat.reducePow,hlen,h0,e1,e2,e3,e4];refine⟨by omega,by omega,⟨by omega,by omega⟩,by omega,by grind,key _ _ _ ?_ ?_⟩
 .rw[aAe,hw]
 .simp[wtoS];omega
theorem aM9(t:Ttl)(a r:List Ppl):aC4 (a++r) t=aC4 a t++aC4 r t:=by simp[aC4]
theorem aP8(t:Ttl)(x:Ppl):aC4 [x] t=if x.t=t then[]else[x]:=by
 unfold aC4;grind
theorem t325(hf:aX1 P F T)(l:List Ppl)(t:Ttl)(hl:l.length<=2^30):PTr P (F 325) [.lst 8 (l.map Ppl.v),tV t] (.lst 8 ((aC4 l t).map Ppl.v)):=by
 obtain⟨t1,t2⟩:=t;have hlen:(l.map Ppl.v).length=l.length:=zb ..;refine ptrC [] hf (by simp) (by simp only[V.imm];exact aAo _) ?_;simp only[c325,push_cast,seval,-Nat.reducePow,tV,tCs];refine aAd (λm s1=>∃a r id,l=a++r∧m=r.length∧s1.env 0=.lst 8 (l.map Ppl.v)∧s1.env 3=.ptr 3 0∧s1.env 6=.int .i64 a.length∧s1.env 5=.own id 8 0 (aC4 a (t1,t2)).length∧s1.L id=some (.vec (T 39) 8 ((aC4 a (t1,t2)).map Ppl.v))∧s1.L 3=some (.box (T 17) [.int .i64 t1,.str t2])∧id≠3∧id<s1.nx∧3<s1.nx) l.length ?_ λm s1 hJ=>?_
 .simp only[push_cast,seval,-Nat.reducePow];exact⟨[],l,56,rfl,rfl,rfl,rfl,aAe _ _ _,by decide,by decide⟩
 .obtain⟨a,r,id,hal,rfl,j0,j3,j6,j5,jL,j3L,hid3,hid,jn⟩:=hJ;have hdr:aC4 l (t1,t2)=aC4 a (t1,t2)++aC4 r (t1,t2):=by rw[hal,aM9]
  have hal2:l.length=a.length+r.length:=by grind
  have hda:(aC4 a (t1,t2)).length<=a.length:=List.length_filter_le ..;cases r with
  | nil =>
    have h1:¬((a.length:Nat):Int)<((l.length:Nat):Int):=by grind
    simp only[push_cast,seval,-Nat.reducePow,j0,j3,j5,j6,jL,j3L,hlen,h1];have hn:aC4 l (t1,t2)=aC4 a (t1,t2):=by grind
    have:=aN4 (n:=2) (sz:=8) jL (aAo _);grind
  | cons x r =>
    have h1:((a.length:Nat):Int)<((l.length:Nat):Int):=by grind
    have hg:(l.map Ppl.v).getD a.length .junk=.agg [.int .i64 x.id,.str x.user,.str x.note,.int .i64 x.t.1,.str x.t.2,.int .i64 x.base,.str x.text,.int .i64 x.minute]:=by rw[hal];simp[ze,Ppl.v]
    rw[zg]at hal2;have tk:zA (aC4 a (t1,t2)).length ((aC4 a (t1,t2)).map Ppl.v)=(aC4 a (t1,t2)).map Ppl.v:=zj (by simp);simp only[push_cast,seval,-Nat.reducePow,j0,j3,j5,j6,jL,j3L,hlen,h1,hg];refine⟨by omega,?_⟩;by_cases hp:x.t=(t1,t2)
    .have hd:(decide (x.t.1=t1)&&decide (x.t.2=t2))=true:=by grind
     have hn:aC4 (a++[x]) (t1,t2)=aC4 a (t1,t2):=by rw[aM9,aP8,if_pos hp,yh]
     simp only[push_cast,seval,-Nat.reducePow,hd,j0,j3,j5,j6,jL,j3L,hlen,h1,hg];exact⟨⟨by omega,by omega⟩,r.length,by omega,a++[x],r,id,by grind,rfl,by simp,by rw[hn],by grind,hid3,by omega,by omega⟩
    .have hd:(decide (x.t.1=t1)&&decide (x.t.2=t2))=false:=by
      grind
     have hn:aC4 (a++[x]) (t1,t2)=aC4 a (t1,t2)++[x]:=by rw[aM9,aP8,if_neg hp]
     simp only[push_cast,seval,-Nat.reducePow,hd,j0,j3,j5,j6,jL,j3L,hlen,h1,hg,tk];refine⟨by omega,by simp,by omega,⟨by omega,by omega⟩,r.length,by omega,a++[x],r,s1.nx+82,by grind,rfl,by simp,by grind,?_,?_,by omega,by omega,by omega⟩
     .rw[aAe,hn];grind
     .rw[aAc _ _ _ _ (Ne.symm hid3)];omega
theorem t301(hf:aQy P F T)(p:Sto)(hl:p.hist.length<=2^30):PTr P (F 301) [p.v] (curS p).v:=by
 refine ptrC [] hf (by simp) rfl ?_;have hlen:(p.hist.map Rev.v).length=p.hist.length:=zb ..;have h1v:(V.lst 6 (p.hist.map Rev.v)).one=true:=rfl;simp only[c301,push_cast,seval,-Nat.reducePow,Sto.v,revV,h1v,hlen];refine aAy (λh=>?_) (λh=>?_)
 .have hn:p.hist=[]:=List.eq_nil_of_length_eq_zero (by omega);have hc:curS p=zRev:=by simp[curS,hn]
  rw[hc];simp only[push_cast,seval,-Nat.reducePow,hn];rfl
 .have hc:curS p=p.hist.getD (p.hist.length-1) zRev:=by
   rw[curS,we,ze]
  have hi:p.hist.length-1<p.hist.length:=by omega
  have hg:(p.hist.map Rev.v).getD (((p.hist.length:Nat):Int)-1).toNat .junk=(curS p).v:=by simp_all
  have h0:(0:Int)<=((p.hist.length:Nat):Int)-1:=by omega
  have hv:(curS p).v=.agg [.int .i64 (curS p).num,.str (curS p).user,.str (curS p).note,.str (curS p).text,.int .i64 (curS p).minute,.int .i64 (curS p).seq]:=rfl;rw[hv]at hg ⊢;simp only[push_cast,seval,-Nat.reducePow,hlen,hg,h0];exact⟨⟨by omega,by omega⟩,by omega,aAb 3 _ rfl⟩
theorem aMn(s:Stt):s.v.imm=true:=by
 simp only[Stt.v,Stt.cs,V.imm,V.imms,stoV,pplV,watV,lasV,aAh,aAo,Bool.and_true,Bool.true_and];rw[show V.imms (s.watches.map Wat.v)=true from aA2 _ _ λ_=>rfl,show V.imms (s.lasts.map Las.v)=true from aA2 _ _ λ_=>rfl];rfl
theorem aBu{l:List Sto}{t:Ttl}{i:Nat}(h:aDn l t=some i):i<l.length∧(l.getD i zSto).t=t:=by
 unfold aDn at h;rw[List.findIdx?_eq_some_iff_getElem]at h;grind
def aE8:Option Sto->V
 | some p=>.tup [p.v,.bool true]
 | none=>.tup [.agg [.int .i64 0,.str [],.nils],.bool false]
def aA7(s:Stt)(t:Ttl):Option Sto:=(aDn s.pages t).map λi=>s.pages.getD i zSto
theorem t299(hf:aR7 P F T)(h300:aH8 P F T)(s:Stt)(t:Ttl)(hl:s.pages.length<=2^30):PTr P (F 299) [s.v,tV t] (aE8 (aA7 s t)):=by
 have hlen:(s.pages.map Sto.v).length=s.pages.length:=zb ..;refine ptrC [] hf (by simp) ?_ ?_
 .unfold aA7;cases aDn s.pages t with
  | none=>rfl
  | some i=>simp[aE8,V.imm,V.imms,aF4]
 simp only[c299,push_cast,seval,-Nat.reducePow,Stt.v,Stt.cs,tV,tCs,stoV,pplV,watV,lasV];have hc:=t300 h300 s.pages t (by omega);obtain⟨t1,t2⟩:=t;refine aAa hc (by simp only[push_cast,seval,-Nat.reducePow,aAh]) (by rfl) ?_;cases hf2:aDn s.pages (t1,t2)with
 | none =>
   have hp:aA7 s (t1,t2)=none:=by rw[aA7,hf2];rfl
   rw[hp];simp only[push_cast,seval,-Nat.reducePow,ixI];rfl
 | some i =>
   obtain⟨hi,_⟩:=aBu hf2;have hp:aA7 s (t1,t2)=some (s.pages.getD i zSto):=by rw[aA7,hf2];rfl
   rw[hp];have hg:(s.pages.map Sto.v).getD i .junk=(s.pages.getD i zSto).v:=aIl hi;have hv:(s.pages.getD i zSto).v=.agg [.int .i64 (s.pages.getD i zSto).t.1,.str (s.pages.getD i zSto).t.2,revV (s.pages.getD i zSto).hist]:=rfl;have h0:¬((i:Nat):Int)<0:=by omega
   rw[hv]at hg;simp only[push_cast,seval,-Nat.reducePow,ixI,h0,hlen,hg,zu,aE8,hv];exact⟨hi,rfl,aAb 3 _ (by simp[V.imm,V.imms,aBd])⟩
def outS(r:Stt×Int):V:=.tup [r.1.v,.int .i64 r.2]
theorem aA3(r:Stt×Int):(outS r).imm=true:=by simp[outS,V.imm,V.imms,aMn]
theorem aDp(M:Heap)(a b c d e f g h:V)(k:Int):view M 3 (.tup [.agg [a,b,c,d,e,f,g,h],.int .i64 k])=.tup [.agg [view M 1 a,view M 1 b,view M 1 c,view M 1 d,view M 1 e,view M 1 f,view M 1 g,view M 1 h],.int .i64 k]:=by simp[view]
theorem aB8{M:Heap}{id z n ty:Nat}{es:List V}(h:M id=some (.vec ty z es))(hn:n=es.length)(hi:V.imms es=true):view M 1 (.own id z 0 n)=.lst z es:=by subst hn;exact aN4 h hi
theorem t308(hf:bK3 P F T)(h300:aH8 P F T)(h324:aVc P F T)(h325:aX1 P F T)(s:Stt)(c:Chg)(hl:s.pages.length<=2^30)(hg:s.gone.length<=2^30)(hp:s.props.length<=2^30):PTr P (F 308) [s.v,c.v] (outS (remS s c)):=by
 have hlen:(s.pages.map Sto.v).length=s.pages.length:=zb ..;have hlg:(s.gone.map Sto.v).length=s.gone.length:=zb ..;have hc:=t300 h300 s.pages c.t (by omega);refine ptrC [] hf (by simp) (aA3 _) ?_;simp only[c308,push_cast,seval,-Nat.reducePow,Stt.v,Stt.cs,Chg.v,Chg.cs,stoV,pplV,watV,lasV,revV];refine aAa hc (by simp only[push_cast,seval,-Nat.reducePow,aAh]) (by simp only[push_cast,seval,-Nat.reducePow]) ?_;cases hf2:aDn s.pages c.t with
 | none=>simp only[push_cast,seval,-Nat.reducePow,ixI];rw[show remS s c=(s,4)from by simp[remS,hf2]];exact aAb 3 _ (aA3 (s,4))
 | some i =>
   obtain⟨hi,hti⟩:=aBu hf2;have h0:¬((i:Nat):Int)<0:=by omega
   have hg1:(s.pages.map Sto.v).getD i .junk=(s.pages.getD i zSto).v:=aIl hi;have hv:(s.pages.getD i zSto).v=.agg [.int .i64 (s.pages.getD i zSto).t.1,.str (s.pages.getD i zSto).t.2,revV (s.pages.getD i zSto).hist]:=rfl;have h1v:(revV (s.pages.getD i zSto).hist).one=true:=rfl;rw[hv]at hg1;by_cases hgl:100<=s.gone.length
   .have hgl':(100:Int)<=((s.gone.length:Nat):Int):=by omega
    simp only[push_cast,seval,-Nat.reducePow,ixI,h0,hlg,hgl'];rw[show remS s c=(s,8)from by simp[remS,hf2,hgl]];exact aAb 3 _ (aA3 (s,8))
   .have hgl':¬(100:Int)<=((s.gone.length:Nat):Int):=by omega
    simp only[push_cast,seval,-Nat.reducePow,ixI,h0,hlg,hgl',hlen,hg1,h1v];refine⟨by omega,hi,by omega,aAa (t324 h324 s.pages i hi hl) (by simp only[push_cast,seval,-Nat.reducePow,aAh]) (by simp only[push_cast,seval,-Nat.reducePow,aAh]) ?_⟩;simp only[push_cast,seval,-Nat.reducePow];refine aAa (t325 h325 s.props c.t hp) (by simp only[push_cast,seval,-Nat.reducePow,aAo]) (by simp only[push_cast,seval,-Nat.reducePow,aAo]) ?_;simp only[push_cast,seval,-Nat.reducePow];rw[show remS s c=({ s with gone:=s.gone++[s.pages.getD i zSto],pages:=wtoS s.pages i,props:=aC4 s.props c.t },0)from by simp[remS,hf2,hgl]];have tk:zA s.gone.length (s.gone.map Sto.v)=s.gone.map Sto.v:=zj (by simp);rw[aDp,aB8 (ty:=T 35) (es:=(s.gone++[s.pages.getD i zSto]).map Sto.v) ?_ (by simp) (aAh _)]
    .rfl
    .rw[tk];simp only[updJ,Nat.reduceEqDiff,if_false,if_true];simp[Sto.v]
end Go.Ab
namespace Go.Ab
def aYh(d:Option Nat)(sz:Nat)(ag:Bool)(v:V)(s:St)(K:St->Prop):Prop:=match v with
 | .ptr id o=>id<s.nx∧aD9 d false sz ag (.ptr id o) s K
 | _=>False
theorem bSt{P:Program}{wr:List Nat}{s:St}{K:St->Prop}{d sz ag x}:aAk P wr (.ldo d sz ag x) s K=aYh d sz ag (s.ev x) s K:=by
 unfold aAk;simp only[aAf];cases s.ev x with
 | ptr id o =>
   simp only[aYh,aKx,aDq];cases s.L id with
   | none=>rfl
   | some b=>cases b<;>simp
 | _=>rfl
theorem bLy{d:Option Nat}{sz:Nat}{ag:Bool}{id o:Nat}{s:St}{K:St->Prop}:aYh d sz ag (.ptr id o) s K=(id<s.nx∧aD9 d false sz ag (.ptr id o) s K):=rfl
theorem aQp{d:Option Nat}{sz:Nat}{ag:Bool}{v v':V}{s s':St}{K:St->Prop}(h:v=v')(h2:s=s'):aYh d sz ag v s K=aYh d sz ag v' s' K:=by rw[h,h2]
attribute [congr] aQp
def apqO(d ty sz id sz' off n sz2:Nat)(ys:List V)(b:Option Blk)(s:St)(K:St->Prop):Prop:=match b with
 | some (.vec ty' _ es)=>ty'=ty∧sz'=sz∧off+n<=es.length∧sz2=sz∧n+ys.length<=2^32 ∧
  K (((s.drop id).add (s.nx+d) (.vec ty sz ((es.drop off).take n++ys))).set d (.own (s.nx+d) sz 0 (n+ys.length)))
 | _=>False
def aX7(d ty sz:Nat)(x y:V)(s:St)(K:St->Prop):Prop:=match x with
 | .own id sz' off n=>match y with
   | .lst sz2 ys=>apqO d ty sz id sz' off n sz2 ys (s.L id) s K
   | _=>False
 | _=>False
theorem bVk{P:Program}{wr:List Nat}{s:St}{K:St->Prop}{d ty sz x y}:aAk P wr (.apq d ty sz x y) s K=aX7 d ty sz (s.ev x) (s.ev y) s K:=by
 unfold aAk;simp only[aAf];cases s.ev x with
 | own id sz' off n =>
   simp only[aX7];cases hb:s.L id with
   | none=>cases s.ev y<;>rfl
   | some b=>cases b<;>cases s.ev y<;>rfl
 | _=>rfl
theorem bKr{d ty sz id sz' off n sz2:Nat}{ys:List V}{s:St}{K:St->Prop}:aX7 d ty sz (.own id sz' off n) (.lst sz2 ys) s K=apqO d ty sz id sz' off n sz2 ys (s.L id) s K:=rfl
theorem bO6{d ty ty' z sz id sz' off n sz2:Nat}{ys es:List V}{s:St}{K:St->Prop}:apqO d ty sz id sz' off n sz2 ys (some (.vec ty' z es)) s K=(ty'=ty∧sz'=sz∧off+n<=es.length∧sz2=sz∧n+ys.length<=2^32 ∧
 K (((s.drop id).add (s.nx+d) (.vec ty sz ((es.drop off).take n++ys))).set d (.own (s.nx+d) sz 0 (n+ys.length)))):=rfl
theorem aQn{d ty sz:Nat}{x x' y y':V}{s s':St}{K:St->Prop}(h:x=x')(h2:y=y')(h3:s=s'):aX7 d ty sz x y s K=aX7 d ty sz x' y' s' K:=by rw[h,h2,h3]
theorem aU8{d ty sz id sz' off n sz2:Nat}{ys ys':List V}{b b':Option Blk}{s s':St}{K:St->Prop}(h:b=b')(h2:ys=ys')(h3:s=s'):apqO d ty sz id sz' off n sz2 ys b s K=apqO d ty sz id sz' off n sz2 ys' b' s' K:=by rw[h,h2,h3]
attribute [congr] aQn aU8
attribute [push_cast] bSt bLy bVk bKr bO6
variable {P:Program} {F T:Nat->Nat}
theorem aOd(l:List Rev):V.imms (l.map Rev.v)=true:=aA2 _ _ λ_=>rfl
theorem bN5{s:St}{K:St->Prop}{id ty sz:Nat}{es:List V}{n:Nat}(hid:s.L id=some (.vec ty sz es))(hn:n=es.length)(hi:V.imms es=true)
 (h:∀s':St,s'.nx=s.nx->(∀i,s.env i=.own id sz 0 n->s'.env i=.lst sz es)->(∀i,(s.env i).imm=true->s'.env i=s.env i)->(∀i a b,s.env i=.ptr a b->s'.env i=.ptr a b) ->
  (∀b ty cs,s.L b=some (.box ty cs)->V.imms cs=true->s'.L b=some (.box ty cs))->K s'):∃s',FzS s s'∧K s':=by
 have key:∀b ty1 cs,s.L b=some (.box ty1 cs)->aDc id es s.L b=some (.box ty1 (V.fzL id es cs)):=by
  intro b ty1 cs hb;have hne:b≠id:=by grind
  simp[aDc,hne,hb,Blk.fz]
 refine⟨s.fz id es,.step id ty sz es hid hi (.refl _),h _ rfl (λi e=>?_) (λi h=>aFj id es _ h) (λi a b h=>?_) λb ty1 cs hb hc=>?_⟩
 .show(s.env i).fz id es=_;rw[e];subst hn;simp[V.fz]
 .show(s.env i).fz id es=_;rw[h];rfl
 .rw[show(s.fz id es).L b=aDc id es s.L b from rfl,key b ty1 cs hb,aFa id es cs hc]
theorem t311(hf:bHu P F T)(h300:aH8 P F T)(h318:aI8 P F T)(h323:aRa P F T)(s:Stt)(c:Chg)(seq:Int)(hl:s.pages.length<=2^29)(hh:0<c.hist.length)(hh2:c.hist.length<=2^29):
 PTr P (F 311) [s.v,c.v,.int .i64 seq] (outS (takS s c seq)):=by
 have hlen:(s.pages.map Sto.v).length=s.pages.length:=zb ..;have hlh:(c.hist.map Rev.v).length=c.hist.length:=zb ..;have c1:=t300 h300 s.pages c.t (by omega);obtain⟨e,he⟩:∃e,e=c.hist.getLast?.getD zRev:=⟨_,rfl⟩;have hgl:(c.hist.map Rev.v).getD (c.hist.length-1) .junk=.agg [.int .i64 e.num,.str e.user,.str e.note,.str e.text,.int .i64 e.minute,.int .i64 e.seq]:=by rw[he,we,ze,List.getElem?_map,List.getElem?_eq_getElem (by omega)];rfl
 have en:((c.hist.length:Int)-1).toNat=c.hist.length-1:=by omega
 refine ptrC [] hf (by simp) (aA3 _) ?_;simp only[c311,push_cast,seval,-Nat.reducePow,Stt.v,Stt.cs,Chg.v,Chg.cs,stoV,pplV,watV,lasV,revV];refine aAa c1 (by simp only[push_cast,seval,-Nat.reducePow,aAh]) (by rfl) ?_;cases hf1:aDn s.pages c.t with
 | some i =>
   have h0:(0:Int)<=((i:Nat):Int):=by omega
   simp only[push_cast,seval,-Nat.reducePow,ixI,h0];rw[show takS s c seq=(s,5)from by simp[takS,hf1]];rfl
 | none =>
   have hm1:¬(0:Int)<=-1:=by decide
   simp only[push_cast,seval,-Nat.reducePow,ixI,hm1,hlh,hgl,en];refine⟨by omega,by omega,by omega,?_⟩;refine aAy (λh1=>?_) (λh1=>?_)
   .simp only[push_cast,seval,-Nat.reducePow];rw[show takS s c seq=(s,2)from by simp[takS,hf1,<-he,h1]];rfl
   .by_cases hpl:200<=s.pages.length
    .have hpl':(200:Int)<=((s.pages.length:Nat):Int):=by omega
     simp only[push_cast,seval,-Nat.reducePow,hlen,hpl'];rw[show takS s c seq=(s,8)from by simp[takS,hf1,<-he,h1,hpl]];rfl
    .have hpl':¬(200:Int)<=((s.pages.length:Nat):Int):=by omega
     simp only[push_cast,seval,-Nat.reducePow,hlen,hlh,hpl'];refine⟨by omega,aAd (λm s1=>∃a r id,c.hist=a++r∧m=r.length∧s1.env 2=.int .i64 seq∧s1.env 3=.ptr 3 0∧s1.env 4=.ptr 4 0∧s1.env 6=.ptr 6 0∧s1.env 9=.int .i64 a.length∧s1.env 8=.own id 6 0 c.hist.length∧s1.L id=some (.vec (T 36) 6 (a.map (λx:Rev=>Rev.v { x with seq:=seq })++r.map Rev.v)) ∧
      s1.L 3=some (.box (T 34) [V.int IntKind.i64 s.seq,V.int IntKind.i64 s.clock,V.lst 3 (zw Sto.v s.pages),V.lst 3 (zw Sto.v s.gone),V.lst 8 (zw Ppl.v s.props),V.int IntKind.i64 s.proposed,V.lst 3 (zw Wat.v s.watches),V.lst 2 (zw Las.v s.lasts)]) ∧
      s1.L 4=some (.box (T 37) [V.int IntKind.i64 c.kind,V.str c.user,V.str c.note,V.int IntKind.i64 c.t.fst,V.str c.t.snd,V.int IntKind.i64 c.to.fst,V.str c.to.snd,V.str c.text,V.int IntKind.i64 c.n,V.lst 6 (zw Rev.v c.hist)]) ∧
      s1.L 6=some (.box (T 34) [V.int IntKind.i64 0,V.int IntKind.i64 0,V.nils,V.nils,V.nils,V.int IntKind.i64 0,V.nils,V.nils])∧6<id∧id<s1.nx) c.hist.length ?_ λm s1 hJ=>?_⟩
     .simp only[push_cast,seval,-Nat.reducePow,hlh];exact⟨[],c.hist,269,rfl,rfl,rfl,rfl,aAe _ _ _,by decide,by decide⟩
     .obtain⟨a,r,id,hal,rfl,j2,j3,j4,j6,j9,j8,jL,jL3,jL4,jL6,hid6,hid⟩:=hJ;have hal2:c.hist.length=a.length+r.length:=by grind
      have i3:(3:Nat)≠id:=by omega
      have i4:(4:Nat)≠id:=by omega
      have i6:(6:Nat)≠id:=by omega
      cases r with
      | nil =>
        have h2:¬((a.length:Nat):Int)<((c.hist.length:Nat):Int):=by grind
        simp only[push_cast,seval,-Nat.reducePow,j2,j3,j4,j6,j8,j9,jL,jL3,jL4,jL6,hlh,h2];obtain⟨h',hh'⟩:∃h':List Rev,h'=a.map (λx:Rev=>{ x with seq:=seq }):=⟨_,rfl⟩;have hv:a.map (λx:Rev=>Rev.v { x with seq:=seq })=h'.map Rev.v:=by simp_all
        have hvl:h'.length=c.hist.length:=by grind
        have hch:c.hist.map (λr:Rev=>{ r with seq:=seq })=h':=by grind
        rw[hv,List.map_nil,yh]at jL;have h1v:(V.lst 6 (h'.map Rev.v)).one=true:=rfl;refine bN5 (id:=id) (ty:=T 36) (sz:=6) (es:=h'.map Rev.v) (n:=c.hist.length) jL (by grind) (aA2 _ _ λ_=>rfl) λs' k0 k1 k2 k3 k4=>?_;have m8:s'.env 8=.lst 6 (h'.map Rev.v):=k1 8 j8;have m3:s'.env 3=.ptr 3 0:=k3 3 3 0 j3;have m4:s'.env 4=.ptr 4 0:=k3 4 4 0 j4;have m6:s'.env 6=.ptr 6 0:=k3 6 6 0 j6;have mL3:=k4 3 _ _ jL3 (by simp only[push_cast,seval,-Nat.reducePow,V.imm,V.imms,aAh,aAo,aAv,aAw]);have mL4:=k4 4 _ _ jL4 (by simp only[push_cast,seval,-Nat.reducePow,V.imm,V.imms,aOd]);have mL6:=k4 6 _ _ jL6 (by rfl);simp only[push_cast,seval,-Nat.reducePow,m3,m4,m6,m8,mL3,mL4,mL6,h1v];refine aAa (t323 h323 h318 s.pages ⟨c.t,h'⟩ (by omega)) (by simp only[push_cast,seval,-Nat.reducePow,aAh,V.imm,V.imms,aOd]) (by simp only[push_cast,seval,-Nat.reducePow,aAh]) ?_;simp only[push_cast,seval,-Nat.reducePow,m3,m4,m6,m8,mL3,mL4,mL6];rw[show takS s c seq=({ s with pages:=insS s.pages ⟨c.t,h'⟩ },0)from by simp[takS,hf1,<-he,h1,hpl,hch]];rfl
      | cons x r =>
        rw[zg]at hal2;have h2:((a.length:Nat):Int)<((c.hist.length:Nat):Int):=by omega
        simp only[push_cast,seval,-Nat.reducePow,j2,j3,j4,j6,j8,j9,jL,jL3,jL4,jL6,hlh,h2];have hgx:(a.map (λx:Rev=>Rev.v { x with seq:=seq })++x.v::r.map Rev.v).getD a.length .junk=x.v:=by simp
        refine⟨by omega,by simp,⟨by omega,by omega⟩,r.length,by omega,a++[x],r,id,by grind,rfl,by simp,rfl,?_,?_,?_,?_,hid6,by omega⟩
        .rw[aAe,hgx];simp[Rev.v,V.recell,V.cells]
        .rw[aAc _ _ _ _ i3];omega
        .rw[aAc _ _ _ _ i4];omega
        .rw[aAc _ _ _ _ i6];omega
theorem bB1(id:Nat)(es:List V):∀(l:List V) (i:Nat) (x:V),V.fzL id es (l.set i x)=(V.fzL id es l).set i (x.fz id es)
 | [],_,_=>by rfl
 | y::l,0,x=>by rfl
 | y::l,i+1,x=>by simp[V.fzL,bB1 id es l i x]
theorem bGg{s:St}{K:St->Prop}{id1 id2 ty1 ty2 sz1 sz2:Nat}{es1 es2:List V}(hid1:s.L id1=some (.vec ty1 sz1 es1))(hi1:V.imms es1=true)(hne:id2≠id1)(hid2:s.L id2=some (.vec ty2 sz2 es2))(hi2:V.imms (V.fzL id1 es1 es2)=true)
 (h:∀s':St,s'.nx=s.nx->(∀i,(s.env i).imm=true->s'.env i=s.env i)->(∀i a b,s.env i=.ptr a b->s'.env i=.ptr a b) ->
  (∀b ty cs,s.L b=some (.box ty cs)->s'.L b=some (.box ty (V.fzL id2 (V.fzL id1 es1 es2) (V.fzL id1 es1 cs))))->K s'):∃s',FzS s s'∧K s':=by
 have key:∀(M:Heap) (id:Nat) (ty sz:Nat) (es:List V),M id=some (.vec ty sz es)->∀b ty1 cs,M b=some (.box ty1 cs)->aDc id es M b=some (.box ty1 (V.fzL id es cs)):=by
  intro M id ty sz es hM b ty1 cs hb;have hne:b≠id:=by grind
  simp[aDc,hne,hb,Blk.fz]
 have hid2':(s.fz id1 es1).L id2=some (.vec ty2 sz2 (V.fzL id1 es1 es2)):=by show aDc id1 es1 s.L id2=_;simp[aDc,hne,hid2,Blk.fz]
 refine⟨(s.fz id1 es1).fz id2 (V.fzL id1 es1 es2),.step id1 ty1 sz1 es1 hid1 hi1 (.step id2 ty2 sz2 _ hid2' hi2 (.refl _)),h _ rfl (λi h=>?_) (λi a b h=>?_) λb ty cs hb=>?_⟩
 .show((s.env i).fz id1 es1).fz id2 _=_;rw[aFj id1 es1 _ h,aFj id2 _ _ h]
 .show((s.env i).fz id1 es1).fz id2 _=_;rw[h];rfl
 .exact key _ id2 ty2 sz2 _ hid2' _ _ _ (key _ id1 ty1 sz1 _ hid1 _ _ _ hb)
theorem t307(hf:bKu P F T)(h300:aH8 P F T)(h318:aI8 P F T)(h323:aRa P F T)(s:Stt)(c:Chg)(seq:Int)(hl:s.pages.length<=2^29):PTr P (F 307) [s.v,c.v,.int .i64 seq] (outS (putS s c seq)):=by
 have hlen:(s.pages.map Sto.v).length=s.pages.length:=zb ..;have hc:=t300 h300 s.pages c.t (by omega);refine ptrC [] hf (by simp) (aA3 _) ?_;simp only[c307,push_cast,seval,-Nat.reducePow,Stt.v,Stt.cs,Chg.v,Chg.cs,stoV,pplV,watV,lasV,revV];refine aAa hc (by simp only[push_cast,seval,-Nat.reducePow,aAh]) (by rfl) ?_;cases hf2:aDn s.pages c.t with
 | none =>
   by_cases hpl:200<=s.pages.length
   .have hpl':(200:Int)<=((s.pages.length:Nat):Int):=by omega
    simp only[push_cast,seval,-Nat.reducePow,ixI,hlen,hpl'];rw[show putS s c seq=(s,8)from by simp[putS,hf2,hpl]];rfl
   .have hpl':¬(200:Int)<=((s.pages.length:Nat):Int):=by omega
    simp only[push_cast,seval,-Nat.reducePow,ixI,hlen,hpl'];refine aAa (t323 h323 h318 s.pages ⟨c.t,[⟨1,c.user,c.note,c.text,s.clock,seq⟩]⟩ (by omega)) (by simp only[push_cast,seval,-Nat.reducePow,aAh,V.imm,V.imms]) (by simp only[push_cast,seval,-Nat.reducePow,aAh]) ?_;simp only[push_cast,seval,-Nat.reducePow];rw[show putS s c seq=({ s with pages:=insS s.pages ⟨c.t,[⟨1,c.user,c.note,c.text,s.clock,seq⟩]⟩ },0)from by simp[putS,hf2,hpl]];rfl
 | some i =>
   obtain⟨hi,hti⟩:=aBu hf2;have h0:¬((i:Nat):Int)<0:=by omega
   have hg1:(s.pages.map Sto.v).getD i .junk=(s.pages.getD i zSto).v:=aIl hi;obtain⟨p,hp⟩:∃p,p=s.pages.getD i zSto:=⟨_,rfl⟩;have hv:p.v=.agg [.int .i64 p.t.1,.str p.t.2,.lst 6 (p.hist.map Rev.v)]:=rfl;rw[<-hp,hv]at hg1;have hlh:(p.hist.map Rev.v).length=p.hist.length:=zb ..;by_cases hol:40<=p.hist.length
   .have hol':(40:Int)<=((p.hist.length:Nat):Int):=by omega
    simp only[push_cast,seval,-Nat.reducePow,ixI,h0,hlen,hg1,hlh,hol'];rw[show putS s c seq=(s,8)from by simp only[putS,hf2,<-hp];grind]
    exact⟨hi,aAb 3 _ (aA3 (s,8))⟩
   .have hol':¬(40:Int)<=((p.hist.length:Nat):Int):=by omega
    simp only[push_cast,seval,-Nat.reducePow,ixI,h0,hlen,hg1,hlh,hol'];refine⟨hi,⟨by omega,by omega⟩,by omega,by omega,by omega,hi,hi,?_⟩;have tk0:zA p.hist.length (zw Rev.v p.hist)=zw Rev.v p.hist:=zj (by simp);obtain⟨h',hh'⟩:∃h':List Rev,h'=p.hist++[⟨p.hist.length+1,c.user,c.note,c.text,s.clock,seq⟩]:=⟨_,rfl⟩;have hE1:zw Rev.v p.hist++[V.agg [V.int IntKind.i64 ((p.hist.length:Int)+1),V.str c.user,V.str c.note,V.str c.text,V.int IntKind.i64 s.clock,V.int IntKind.i64 seq]]=h'.map Rev.v:=by rw[hh',List.map_append];rfl
    have hhl:p.hist.length+1=(h'.map Rev.v).length:=by grind
    rw[tk0,hE1];have hfz:V.fzL 644 (h'.map Rev.v) ((s.pages.map Sto.v).set i (V.agg [V.int IntKind.i64 p.t.fst,V.str p.t.snd,V.own 644 6 0 (p.hist.length+1)]))=(s.pages.set i ⟨p.t,h'⟩).map Sto.v:=by rw[bB1,aFa _ _ _ (aAh _),List.map_set];congr 1;simp[V.fz,V.fzL,hhl,Sto.v,revV];grind
    have hpt:p.t=c.t:=by grind
    have hres:putS s c seq=({ s with pages:=s.pages.set i ⟨p.t,h'⟩ },0):=by simp only[putS,hf2,<-hp];grind
    have hEl:s.pages.length=((s.pages.set i ⟨p.t,h'⟩).map Sto.v).length:=by simp
    have g1:∀id es,(V.lst 3 (s.gone.map Sto.v)).fz id es=V.lst 3 (s.gone.map Sto.v):=λid es=>aFj id es _ (by simp only[V.imm];exact aAh _);have g2:∀id es,(V.lst 8 (s.props.map Ppl.v)).fz id es=V.lst 8 (s.props.map Ppl.v):=λid es=>aFj id es _ (by simp only[V.imm];exact aAo _);have g3:∀id es,(V.lst 3 (s.watches.map Wat.v)).fz id es=V.lst 3 (s.watches.map Wat.v):=λid es=>aFj id es _ (by simp only[V.imm];exact aAv _);have g4:∀id es,(V.lst 2 (s.lasts.map Las.v)).fz id es=V.lst 2 (s.lasts.map Las.v):=λid es=>aFj id es _ (by simp only[V.imm];exact aAw _);refine bGg (id1:=644) (id2:=563) (ty1:=T 36) (ty2:=T 35) (sz1:=6) (sz2:=3) (es1:=h'.map Rev.v) (by rfl) (aA2 _ _ λ_=>rfl) (by decide) (es2:=(s.pages.map Sto.v).set i (V.agg [V.int IntKind.i64 p.t.fst,V.str p.t.snd,V.own 644 6 0 (p.hist.length+1)])) (by rfl) (by rw[hfz];exact aAh _) λs' k0 k1 k2 k3=>?_;have m3:s'.env 3=.ptr 3 0:=k2 3 3 0 (by rfl);have m6:s'.env 6=.ptr 6 0:=k2 6 6 0 (by rfl);have mL6:=k3 6 (T 34) [V.int IntKind.i64 0,V.int IntKind.i64 0,V.nils,V.nils,V.nils,V.int IntKind.i64 0,V.nils,V.nils] (by rfl);have mL3:=k3 3 (T 34) [V.int IntKind.i64 s.seq,V.int IntKind.i64 s.clock,V.own 563 3 0 s.pages.length,V.lst 3 (zw Sto.v s.gone),V.lst 8 (zw Ppl.v s.props),V.int IntKind.i64 s.proposed,V.lst 3 (zw Wat.v s.watches),V.lst 2 (zw Las.v s.lasts)] (by rfl);rw[hfz]at mL3 mL6;have f6:V.fzL 563 ((s.pages.set i ⟨p.t,h'⟩).map Sto.v) (V.fzL 644 (h'.map Rev.v) [V.int IntKind.i64 0,V.int IntKind.i64 0,V.nils,V.nils,V.nils,V.int IntKind.i64 0,V.nils,V.nils])=[V.int IntKind.i64 0,V.int IntKind.i64 0,V.nils,V.nils,V.nils,V.int IntKind.i64 0,V.nils,V.nils]:=by rfl
    have f3:V.fzL 563 ((s.pages.set i ⟨p.t,h'⟩).map Sto.v) (V.fzL 644 (h'.map Rev.v) [V.int IntKind.i64 s.seq,V.int IntKind.i64 s.clock,V.own 563 3 0 s.pages.length,V.lst 3 (zw Sto.v s.gone),V.lst 8 (zw Ppl.v s.props),V.int IntKind.i64 s.proposed,V.lst 3 (zw Wat.v s.watches),V.lst 2 (zw Las.v s.lasts)])=[V.int IntKind.i64 s.seq,V.int IntKind.i64 s.clock,V.lst 3 ((s.pages.set i ⟨p.t,h'⟩).map Sto.v),V.lst 3 (zw Sto.v s.gone),V.lst 8 (zw Ppl.v s.props),V.int IntKind.i64 s.proposed,V.lst 3 (zw Wat.v s.watches),V.lst 2 (zw Las.v s.lasts)]:=by
     have q1:¬(563=644∧0+s.pages.length<=(h'.map Rev.v).length):=by omega
     have q2:563=563∧0+s.pages.length<=((s.pages.set i ⟨p.t,h'⟩).map Sto.v).length:=⟨rfl,by simp⟩;simp only[V.fzL,g1,g2,g3,g4];simp only[V.fz,if_neg q1,if_pos q2,yn];grind
    rw[f6]at mL6;rw[f3]at mL3;simp only[push_cast,seval,-Nat.reducePow,m3,m6,mL3,mL6];rw[hres];rfl
end Go.Ab
