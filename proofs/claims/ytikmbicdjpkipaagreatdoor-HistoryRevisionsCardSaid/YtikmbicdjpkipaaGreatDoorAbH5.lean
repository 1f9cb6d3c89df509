import Derived.Test.YtikmbicdjpkipaaGreatDoorAbE4
import Derived.Test.YtikmbicdjpkipaaGreatDoorAbH4
import Derived.Test.YtikmbicdjpkipaaGreatDoorAbR2
import Derived.Test.YtikmbicdjpkipaaGreatDoorAbF4
import Derived.Test.YtikmbicdjpkipaaGreatDoorAbC4
open List renaming length_map->zb,length_cons->zg,getD_eq_getElem?_getD->ze,append_nil->yh,length_append->yl,map_nil->yb,set_append_right->xE,getD->zI,all_eq_true->zx
open Bool renaming and_self->zn,and_eq_true->zc
set_option linter.unusedSimpArgs false
set_option linter.unusedVariables false
namespace Go.Ab
def c344(F T:Nat->Nat):C:=.n [.mov (some 0) (.k .nils)]<|.n [.mkl (some 1) 1 [.s [],.s [97,110,110],.s [98,111,98],.s [99,121]],.m 0 1]<|.ret
abbrev bG9(P:Program)(F T:Nat->Nat):Prop:=Fn P (F 344) 2 [(0,none)] (c344 F T)
def c379(F T:Nat->Nat):C:=.n [.box 6 (T 34) (.t 0),.box 8 (T 17) (.t 2),.mov (some 12) (.k (.bool false))]<|.seq (.n [.load (some 18) false 8 true (.t 6),.c 19 (F 380) [.t 18],.un (some 20) .not (.t 19)]<|.cond (.t 20) (.n [.c 21 (F 335) [],.m 12 21]<|.ret) (.skip))<|.n [.m 22 3,.e 23 80 (F 330) [.t 22],.alloc 13 (T 34) [(.int .i64 0),(.int .i64 0),.nils,.nils,.nils,(.int .i64 0),.nils,.nils],.store 8 (.t 13) (.t 23)]<|.seq (.p [.c 24 (F 344) [],.m 25 4,.c 26 (F 368) [.t 25,.i 4],.ia 27 1 24 26,.l 28 27,.c 29 (F 345) [],.m 30 5,.c 31 (F 368) [.t 30,.i 8],.ia 32 2 29 31,.load (some 33) false 2 true (.t 32),.alloc 15 (T 17) [(.int .i64 0),(.str [])],.m 14 28,.store 2 (.t 15) (.t 33)])<|.n [.load (some 34) false 8 true (.t 13),.m 35 14,.load (some 36) false 2 true (.t 15),.c 37 (F 340) [.t 34,.t 35,.t 36],.m 16 37]<|.seq (.n [.mov (some 17) (.i 0)]<|.block 0<|.loop<|.seq (.n [.m 38 17,.m 39 16,.ll 40 39,.b 41 .lss 38 40]<|.cond (.t 41) (.skip) (.exit 0))<|.seq (.block 1<|.seq (.ops false [⟨none,[.m 44 16,.m 45 17,.ia 46 6 44 45,.f 47 5 46,.l 48 47,.bi 49 .neq 48 0,.m 50 49]⟩,⟨some (50,false),[.m 51 16,.m 52 17,.ia 53 6 51 52,.f 54 0 53,.l 55 54,.m 56 17,.bi 57 .add 56 1,.b 58 .neq 55 57]⟩,⟨none,[.pt 59 50 58]⟩])<|.cond (.t 59) (.n [.mov (some 12) (.k (.bool false))]<|.ret) (.skip))<|.o [.m 42 17,.bi 43 .add 42 1,.m 17 43])<|.seq (.ops true [⟨none,[.c 60 (F 335) [],.m 61 60]⟩,⟨some (61,true),[.load (some 62) false 8 true (.t 6),.m 63 1,.load (some 64) false 2 true (.t 8),.c 65 (F 340) [.t 62,.t 63,.t 64],.load (some 66) false 8 true (.t 6),.m 67 1,.load (some 68) false 2 true (.t 8),.c 69 (F 381) [.t 66,.t 67,.t 68],.c 70 (F 437) [.t 65,.t 69]]⟩,⟨none,[.pf 71 61 70,.m 72 71]⟩,⟨some (72,true),[.m 73 16,.load (some 74) false 8 true (.t 13),.m 75 14,.load (some 76) false 2 true (.t 15),.c 77 (F 381) [.t 74,.t 75,.t 76],.c 78 (F 437) [.t 73,.t 77]]⟩,⟨none,[.pf 79 72 78,.m 12 79]⟩])<|.ret
abbrev bOx(P:Program)(F T:Nat->Nat):Prop:=Fn P (F 379) 80 [(12,none)] (c379 F T)
def c381(F T:Nat->Nat):C:=.n [.box 3 (T 34) (.t 0),.box 5 (T 17) (.t 2),.mov (some 6) (.k .nils)]<|.n [.load (some 12) false 8 true (.t 3),.load (some 13) false 2 true (.t 5),.c 14 (F 299) [.t 12,.t 13],.m 11 14,.x 15 0 11,.x 16 1 11,.alloc 7 (T 35) [(.int .i64 0),(.str []),.nils],.store 3 (.t 7) (.t 15),.m 8 16]<|.seq (.seq (.ops false [⟨none,[.m 17 8,.un (some 18) .not (.t 17),.m 19 18]⟩,⟨some (19,false),[.load (some 20) false 8 true (.t 3),.m 21 1,.load (some 22) false 2 true (.t 5),.c 23 (F 438) [.t 20,.t 21,.i 1,.t 22],.un (some 24) .not (.t 23)]⟩,⟨none,[.pt 25 19 24]⟩])<|.cond (.t 25) (.n [.mov (some 6) (.k .nils)]<|.ret) (.skip))<|.n [.f 26 2 7,.l 27 26,.app 28 (T 36) 6 (.k .nils) (.t 27),.m 9 28]<|.seq (.n [.mov (some 10) (.i 0)]<|.block 0<|.loop<|.seq (.n [.m 29 10,.m 30 9,.ll 31 30,.b 32 .lss 29 31]<|.cond (.t 32) (.skip) (.exit 0))<|.seq (.block 1<|.o [.m 35 9,.m 36 10,.ia 37 6 35 36,.f 38 5 37,.store 1 (.t 38) (.i 0)])<|.o [.m 33 10,.bi 34 .add 33 1,.m 10 34])<|.n [.m 39 9,.m 6 39]<|.ret
abbrev bKj(P:Program)(F T:Nat->Nat):Prop:=Fn P (F 381) 40 [(6,none)] (c381 F T)
def c434(F T:Nat->Nat):C:=.n [.box 3 (T 34) (.t 0),.box 5 (T 17) (.t 2),.mov (some 6) (.k .nils)]<|.n [.load (some 11) false 8 true (.t 3),.load (some 12) false 2 true (.t 5),.e 13 37 (F 435) [.t 11,.t 12],.m 10 13,.x 14 0 10,.x 15 1 10,.alloc 7 (T 35) [(.int .i64 0),(.str []),.nils],.store 3 (.t 7) (.t 14),.m 8 15]<|.seq (.seq (.p [.load (some 16) false 8 true (.t 3),.m 17 1,.c 18 (F 347) [.t 16,.t 17],.load (some 19) false 2 true (.t 5),.mkl (some 20) 1 [.i 1],.c 21 (F 348) [.t 18,.t 19,.t 20],.un (some 22) .not (.t 21)])<|.cond (.t 22) (.n [.mov (some 6) (.k .nils)]<|.ret) (.skip))<|.seq (.n [.f 23 2 7,.l 24 23,.ll 25 24,.mov (some 26) (.i 0)]<|.block 0<|.loop<|.n [.b 27 .lss 26 25]<|.seq (.cond (.t 27) (.skip) (.exit 0))<|.seq (.block 1<|.n [.m 28 26,.m 9 28]<|.o [.f 29 2 7,.l 30 29,.m 31 9,.ia 32 6 30 31,.f 33 5 32,.store 1 (.t 33) (.i 0)])<|.o [.bi 34 .add 26 1,.m 26 34])<|.n [.f 35 2 7,.l 36 35,.m 6 36]<|.ret
abbrev bIb(P:Program)(F T:Nat->Nat):Prop:=Fn P (F 434) 37 [(6,none)] (c434 F T)
def c435(F T:Nat->Nat):C:=.n [.box 2 (T 34) (.t 0),.box 3 (T 17) (.t 1),.alloc 4 (T 35) [(.int .i64 0),(.str []),.nils],.mov (some 5) (.k (.bool false))]<|.seq (.n [.f 8 2 2,.l 9 8,.ll 10 9,.mov (some 11) (.i 0)]<|.block 0<|.loop<|.n [.b 12 .lss 11 10]<|.seq (.cond (.t 12) (.skip) (.exit 0))<|.seq (.block 1<|.n [.ia 13 3 9 11,.load (some 14) false 3 true (.t 13),.alloc 7 (T 35) [(.int .i64 0),(.str []),.nils],.store 3 (.t 7) (.t 14)]<|.n [.f 15 0 7,.load (some 16) false 2 true (.t 15),.load (some 17) false 2 true (.t 3),.eqA (some 18) false [0,1] (.t 16) (.t 17)]<|.cond (.t 18) (.n [.load (some 19) false 3 true (.t 7),.e 20 23 (F 436) [.t 19],.store 3 (.t 4) (.t 20),.mov (some 5) (.k (.bool true))]<|.ret) (.skip))<|.o [.bi 21 .add 11 1,.m 11 21])<|.n [.build (some 22) [(.int .i64 0),(.str []),.nils] [],.store 3 (.t 4) (.t 22),.mov (some 5) (.k (.bool false))]<|.ret
abbrev bKm(P:Program)(F T:Nat->Nat):Prop:=Fn P (F 435) 23 [(4,(some (3,true))),(5,none)] (c435 F T)
def c436(F T:Nat->Nat):C:=.n [.box 1 (T 35) (.t 0),.alloc 2 (T 35) [(.int .i64 0),(.str []),.nils]]<|.n [.f 3 2 1,.l 4 3,.e 5 8 (F 357) [.t 4],.f 6 2 1,.store 1 (.t 6) (.t 5)]<|.n [.load (some 7) false 3 true (.t 1),.store 3 (.t 2) (.t 7)]<|.ret
abbrev bKs(P:Program)(F T:Nat->Nat):Prop:=Fn P (F 436) 8 [(2,(some (3,true)))] (c436 F T)
def c437(F T:Nat->Nat):C:=.n [.mov (some 4) (.k (.bool false))]<|.seq (.n [.m 6 0,.ll 7 6,.m 8 1,.ll 9 8,.b 10 .neq 7 9]<|.cond (.t 10) (.n [.mov (some 4) (.k (.bool false))]<|.ret) (.skip))<|.seq (.n [.mov (some 5) (.i 0)]<|.block 0<|.loop<|.seq (.n [.m 11 5,.m 12 0,.ll 13 12,.b 14 .lss 11 13]<|.cond (.t 14) (.skip) (.exit 0))<|.seq (.block 1<|.seq (.p [.m 17 0,.m 18 5,.ia 19 6 17 18,.load (some 20) false 6 true (.t 19),.m 21 1,.m 22 5,.ia 23 6 21 22,.load (some 24) false 6 true (.t 23),.eqA (some 25) true [0,1,1,1,0,0] (.t 20) (.t 24)])<|.cond (.t 25) (.n [.mov (some 4) (.k (.bool false))]<|.ret) (.skip))<|.o [.m 15 5,.bi 16 .add 15 1,.m 5 16])<|.n [.mov (some 4) (.k (.bool true))]<|.ret
abbrev bLo(P:Program)(F T:Nat->Nat):Prop:=Fn P (F 437) 26 [(4,none)] (c437 F T)
def c438(F T:Nat->Nat):C:=.n [.box 4 (T 34) (.t 0),.box 7 (T 17) (.t 3),.mov (some 8) (.k (.bool false))]<|.n [.load (some 10) false 8 true (.t 4),.c 11 (F 334) [.t 10],.alloc 9 (T 16) [.nils,.nils,.nils],.store 3 (.t 9) (.t 11)]<|.seq (.p [.load (some 12) false 3 true (.t 9),.load (some 13) false 3 true (.t 9),.m 14 1,.c 15 (F 209) [.t 13,.t 14],.m 16 2,.load (some 17) false 2 true (.t 7),.c 18 (F 192) [.t 12,.t 15,.t 16,.t 17],.m 8 18])<|.ret
abbrev bKc(P:Program)(F T:Nat->Nat):Prop:=Fn P (F 438) 19 [(8,none)] (c438 F T)
open Go.Lib
variable {P:Program} {F T:Nat->Nat}
theorem bAx{f:Nat}{args:List V}{r:V}(h:PTr P f args r)(hi:V.imms args=true)(L:Heap)(nx:Nat):ECall P f args L nx λv L' nx'=>v=r∧L'=L∧nx'=nx:=by
 refine⟨⟨r,L,nx,rfl,rfl,rfl⟩,λD G w vs hg hl hr=>?_⟩;have hG:Good P D 0 ⟨λ_=>.junk,L,nx⟩ G ⟨#[],[]⟩ w:=hg.good;have hlt:∀b,Dp D L G b->b<w.heap.size:=λb hb=>hb.elim (hg.dlt b) λh=>(hg.away b h).1;refine(h (Dp D L G) w vs hlt hg.gl.out hl λi x hx=>(hr i x hx).free (aBh hi (List.mem_of_getElem? hx)) _).mono ?_;rintro e w' ⟨v,rfl,hb',hv⟩;obtain⟨g1,g2⟩:=hG.grow hb';exact⟨v,r,L,nx,G,rfl,⟨rfl,rfl,rfl⟩,g1.hp,Nat.le_refl _,g2,hv.mono (λ_ _ h=>by cases h) (λb _ h=>h) (Same.refl _ _)⟩
def ownH(T:Nat->Nat)(h:List Rev)(v:V)(L':Heap)(nx:Nat):Prop:=(h=[]∧v=.lst 6 [])∨∃id,nx<=id∧v=.own id 6 0 h.length∧L' id=some (.vec (T 36) 6 (h.map Rev.v))
def aL1(L L':Heap)(nx nx':Nat):Prop:=nx<=nx'∧∀b,b<nx->L' b=L b
theorem e357(hf:bFl P F T)(c0:PTr P (F 357) [revV []] (revV []))(h:List Rev)(hl:h.length<=2^30)(L:Heap)(nx:Nat):ECall P (F 357) [revV h] L nx λv L' nx'=>ownH T h v L' nx∧(∀id,v=.own id 6 0 h.length->id<nx')∧aL1 L L' nx nx':=by
 cases h with
 | nil=>exact(bAx c0 (by rfl) L nx).mono λv L' nx' ⟨e1,e2,e3⟩=>⟨.inl ⟨rfl,e1⟩,λid e=>(by rw[e1]at e;cases e),by omega,λb _=>by rw[e2]⟩
 | cons x r =>
   have hln:((x::r).map Rev.v).length=(x::r).length:=zb ..;have h0:0<(x::r).length:=by simp
   refine aB0 [] hf (by simp) ?_;simp only[c357,push_cast,seval,-Nat.reducePow,revV,hln];refine⟨by omega,by rw[zb];simp only[zg]at hl;omega,by omega,.inr ⟨nx+23,by omega,by rw[zb];rfl,by rw[aAe];rfl⟩,λid e=>(by injection e with e1;omega),by omega,λb hb=>?_⟩;rw[aAc _ _ _ _ (by omega),aAc _ _ _ _ (by omega),aAc _ _ _ _ (by omega)]
theorem ownH.put{h:List Rev}{v:V}{L':Heap}{m i:Nat}{b:Option Blk}(k:ownH T h v L' m)(hi:i<m):ownH T h v (upd L' i b) m:=by
 rcases k with h|⟨id,h1,h2,h3⟩
 .exact .inl h
 .exact .inr ⟨id,h1,h2,by rw[aAc _ _ _ _ (by omega)];exact h3⟩
theorem ownH.up{h:List Rev}{v:V}{L':Heap}{m m':Nat}(k:ownH T h v L' m)(hi:m'<=m):ownH T h v L' m':=by
 rcases k with h|⟨id,h1,h2,h3⟩
 .exact .inl h
 .exact .inr ⟨id,by omega,h2,h3⟩
def ownP(T:Nat->Nat)(p:Sto)(v:V)(L':Heap)(nx nx':Nat):Prop:=∃x,v=.agg [.int .i64 p.t.1,.str p.t.2,x]∧ownH T p.hist x L' nx∧∀id,x=.own id 6 0 p.hist.length->id<nx'
theorem ownH.one{h:List Rev}{v:V}{L':Heap}{nx:Nat}(k:ownH T h v L' nx):v.one=true:=by
 rcases k with⟨_,rfl⟩|⟨id,_,rfl,_⟩<;>rfl
theorem e436(hf:bKs P F T)(p:Sto)(h357:∀L nx,ECall P (F 357) [revV p.hist] L nx λv L' nx'=>ownH T p.hist v L' nx∧(∀id,v=.own id 6 0 p.hist.length->id<nx')∧aL1 L L' nx nx')(L:Heap)(nx:Nat):ECall P (F 436) [p.v] L nx λv L' nx'=>ownP T p v L' nx nx'∧aL1 L L' nx nx':=by
 have h1v:(revV p.hist).one=true:=rfl;refine aB0 [] hf (by simp) ?_;simp only[c436,push_cast,seval,-Nat.reducePow,Sto.v,h1v];refine aAg (h357 _ _) ?_;rintro v L' nx' ⟨hv,hi,hk,hL⟩;have ho:=hv.one;have hb1:=hL (nx+1) (by omega);have hb2:=hL (nx+2) (by omega);simp only[push_cast,seval,-Nat.reducePow]at hb1 hb2;have hcl:v.cells=[v]∧v.ncells=some 1:=by cases v<;>simp_all[V.one,V.cells,V.ncells]
 simp only[push_cast,seval,-Nat.reducePow,hb1,hb2,ho,hcl.1,hcl.2];refine⟨by omega,⟨v,rfl,((hv.put (by omega)).put (by omega)).up (by omega),λid e=>by have:=hi id e;omega⟩,by omega,λb hb=>?_⟩;rw[aAc _ _ _ _ (by omega),aAc _ _ _ _ (by omega),hL b (by omega),aAc _ _ _ _ (by omega),aAc _ _ _ _ (by omega)]
def pagO(T:Nat->Nat)(q:Option Sto)(v:V)(L':Heap)(nx nx':Nat):Prop:=match q with
 | none=>v=.tup [.agg [.int .i64 0,.str [],.nils],.bool false]
 | some p=>∃y,v=.tup [y,.bool true]∧ownP T p y L' nx nx'
theorem bEr{s:Stt}{t:Ttl}{b q:List Sto}{x:Sto}(h:s.pages=b++x::q)(hb:∀p,p∈b->p.t≠t)(hx:x.t=t):aA7 s t=some x:=by
 unfold aA7;rw[h,aJl t b _ hb,List.findIdx?_cons];simp[hx,ze]
theorem bCk{s:Stt}{t:Ttl}(hb:∀p,p∈s.pages->p.t≠t):aA7 s t=none:=by
 have:=aJl t s.pages [] hb;unfold aA7;rw[yh]at this;rw[this];rfl
theorem e435(hf:bKm P F T)(s:Stt)(t:Ttl)(hl:s.pages.length<=2^30)(h436:∀p,aA7 s t=some p->∀L nx,ECall P (F 436) [p.v] L nx λv L' nx'=>ownP T p v L' nx nx'∧aL1 L L' nx nx')(L:Heap)(nx:Nat):
 ECall P (F 435) [s.v,tV t] L nx λv L' nx'=>pagO T (aA7 s t) v L' nx nx'∧aL1 L L' nx nx':=by
 have hlp:(s.pages.map Sto.v).length=s.pages.length:=zb ..;refine aB0 [] hf (by simp) ?_;simp only[c435,push_cast,seval,-Nat.reducePow,Stt.v,Stt.cs,stoV,pplV,watV,lasV,tV,tCs,hlp];refine aAd (λm s1=>∃b q,s.pages=b++q∧(∀p,p∈b->p.t≠t)∧m=q.length∧s1.env 2=.ptr (nx+2) 0∧s1.env 3=.ptr (nx+3) 0∧s1.env 4=.ptr (nx+4) 0∧s1.env 9=.lst 3 (s.pages.map Sto.v)∧s1.env 10=.int .i64 s.pages.length∧s1.env 11=.int .i64 b.length∧s1.L (nx+3)=some (.box (T 17) [.int .i64 t.1,.str t.2])∧s1.L (nx+4)=some (.box (T 35) [.int .i64 0,.str [],.nils])∧nx+4<s1.nx∧∀i,i<nx->s1.L i=L i) s.pages.length ?_ λm s1 hJ=>?_
 .simp only[push_cast,seval,-Nat.reducePow];exact⟨[],s.pages,rfl,by simp,rfl,rfl,by omega,λi hi=>by rw[aAc _ _ _ _ (by omega),aAc _ _ _ _ (by omega),aAc _ _ _ _ (by omega)]⟩
 .obtain⟨b,q,hb,hno,rfl,j2,j3,j4,j9,j10,j11,e3,e4,jn,jL⟩:=hJ;have hb2:s.pages.length=b.length+q.length:=by rw[hb,yl]
  cases q with
  | nil =>
    have h1:¬((b.length:Nat):Int)<((s.pages.length:Nat):Int):=by simp at hb2;omega
    have hn:aA7 s t=none:=bCk (by rw[hb,yh];exact hno);simp only[push_cast,seval,-Nat.reducePow,j2,j3,j4,j9,j10,j11,e3,e4,h1,hn,pagO];exact⟨by omega,by omega,λi hi=>by rw[aAc _ _ _ _ (by omega),jL i hi]⟩
  | cons x q =>
    rw[zg]at hb2;have h1:((b.length:Nat):Int)<((s.pages.length:Nat):Int):=by omega
    have hg:(s.pages.map Sto.v).getD b.length .junk=.agg [.int .i64 x.t.1,.str x.t.2,revV x.hist]:=by rw[hb];simp[ze,Sto.v]
    have h1v:(revV x.hist).one=true:=rfl;have u3:∀(M:Heap) b,upd M (s1.nx+30) b (nx+3)=M (nx+3):=λM b=>aAc _ _ _ _ (by omega);have u4:∀(M:Heap) b,upd M (s1.nx+30) b (nx+4)=M (nx+4):=λM b=>aAc _ _ _ _ (by omega);by_cases hx:x.t=t
    .have e1:x.t.1=t.1:=by rw[hx]
     have e2:x.t.2=t.2:=by rw[hx]
     have hp:=bEr hb hno hx;simp only[push_cast,seval,-Nat.reducePow,j2,j3,j4,j9,j10,j11,e3,e4,h1,hg,h1v,e1,e2,u3,u4];have hc:=h436 x hp;simp only[Sto.v,e1,e2]at hc;refine⟨by omega,aAg (hc _ _) ?_⟩;rintro v L' nx' ⟨⟨y,rfl,hy,hi⟩,hk,hL⟩;have hyo:=hy.one;have h4:=hL (nx+4) (by omega);rw[u4,u4,e4]at h4;have hcl:y.cells=[y]∧y.ncells=some 1:=by cases y<;>simp_all[V.one,V.cells,V.ncells]
     simp only[push_cast,seval,-Nat.reducePow,j4,h4,hyo,hcl.1,hcl.2,hp,pagO];refine⟨by omega,⟨_,rfl,y,rfl,(hy.put (by omega)).up (by omega),λid e=>by have:=hi id e;omega⟩,by omega,λi hi=>?_⟩;rw[aAc _ _ _ _ (by omega),hL i (by omega),aAc _ _ _ _ (by omega),aAc _ _ _ _ (by omega),jL i hi]
    .have hd:(decide (x.t.1=t.1)&&decide (x.t.2=t.2))=false:=by grind
     simp only[push_cast,seval,-Nat.reducePow,j2,j3,j4,j9,j10,j11,e3,e4,h1,hg,h1v,hd,u3,u4];exact⟨by rw[hlp];omega,⟨by omega,by omega⟩,q.length,by omega,b++[x],q,by rw[hb];simp,λp hp=>by grind,rfl,by simp,by omega,λi hi=>by rw[aAc _ _ _ _ (by omega),aAc _ _ _ _ (by omega),jL i hi]⟩
def zSeq(r:Rev):Rev:={ r with seq:=0 }
def revO(b:Bool)(q:Option Sto):V:=if b then(match q with|none=>.nils|some p=>revV (p.hist.map zSeq))else .nils
theorem t434(hf:bIb P F T)(s:Stt)(u:List UInt8)(t:Ttl){w:V}{b:Bool}(hh:∀p,aA7 s t=some p->p.hist.length<=2^30)(h435:∀L nx,ECall P (F 435) [s.v,tV t] L nx λv L' nx'=>pagO T (aA7 s t) v L' nx nx'∧aL1 L L' nx nx')
 (h347:PTr P (F 347) [s.v,.str u] w) (iw:w.imm=true) (h348:PTr P (F 348) [w,tV t,.lst 1 [.int .i64 1]] (.bool b)):PTr P (F 434) [s.v,.str u,tV t] (revO b (aA7 s t)):=by
 have hri:(revO b (aA7 s t)).imm=true:=by
  unfold revO;split
  .split
   .rfl
   .exact aBd _
  .rfl
 refine ptrC [] hf (by simp) hri ?_;simp only[c434,push_cast,seval,-Nat.reducePow,Stt.v,Stt.cs,stoV,pplV,watV,lasV,tV,tCs];simp only[Stt.v,Stt.cs,stoV,pplV,watV,lasV,tV,tCs]at h435 h347 h348;refine aAg (h435 _ _) ?_;rintro v L' nx' ⟨hv,hk,hL⟩;have h3:=hL 3 (by omega);have h5:=hL 5 (by omega);simp only[push_cast,seval,-Nat.reducePow]at h3 h5;cases hp:aA7 s t with
 | none =>
   rw[hp]at hv;obtain rfl:=hv;simp only[push_cast,seval,-Nat.reducePow,h3,h5];refine aAa h347 (by simp only[V.imm,V.imms,aAh,aAo,aAv,aAw,zn]) iw ?_;simp only[push_cast,seval,-Nat.reducePow,h3,h5];refine aAa h348 (by simp only[V.imm,V.imms,iw,zn]) rfl ?_;cases b with
   | false=>simp only[push_cast,seval,-Nat.reducePow,revO];rfl
   | true =>
     simp only[push_cast,seval,-Nat.reducePow,revO];refine aAd (λm s1=>s1.env 7=.ptr (nx'+7) 0∧s1.env 25=.int .i64 0∧s1.env 26=.int .i64 0∧s1.L (nx'+7)=some (.box (T 35) [.int .i64 0,.str [],.nils])) 0 ?_ λm s1 hJ=>?_
     .simp only[push_cast,seval,-Nat.reducePow]
     .obtain⟨j7,j25,j26,e7⟩:=hJ;simp only[push_cast,seval,-Nat.reducePow,j7,j25,j26,e7];rfl
 | some p =>
   rw[hp]at hv;obtain⟨_,rfl,y,rfl,hy,hi⟩:=hv;have hyo:=hy.one;have hcl:y.cells=[y]∧y.ncells=some 1:=by cases y<;>simp_all[V.one,V.cells,V.ncells]
   simp only[push_cast,seval,-Nat.reducePow,h3,h5,hyo,hcl.1,hcl.2];refine aAa h347 (by simp only[V.imm,V.imms,aAh,aAo,aAv,aAw,zn]) iw ?_;simp only[push_cast,seval,-Nat.reducePow,h3,h5];refine aAa h348 (by simp only[V.imm,V.imms,iw,zn]) rfl ?_;cases b with
   | false=>simp only[push_cast,seval,-Nat.reducePow,revO];rfl
   | true =>
     simp only[push_cast,seval,-Nat.reducePow,revO];rcases hy with⟨h0,rfl⟩|⟨id,hid,rfl,hb⟩
     .simp only[push_cast,seval,-Nat.reducePow];refine aAd (λm s1=>s1.env 7=.ptr (nx'+7) 0∧s1.env 25=.int .i64 0∧s1.env 26=.int .i64 0∧s1.L (nx'+7)=some (.box (T 35) [.int .i64 p.t.1,.str p.t.2,.lst 6 []])) 0 ?_ λm s1 hJ=>?_
      .simp only[push_cast,seval,-Nat.reducePow]
      .obtain⟨j7,j25,j26,e7⟩:=hJ;simp only[push_cast,seval,-Nat.reducePow,j7,j25,j26,e7,h0];rfl
     .have hlt:=hi id rfl;have hn:=hh p hp;simp only[push_cast,seval,-Nat.reducePow];refine aAd (λm s1=>∃a r,p.hist=a++r∧m=r.length∧s1.env 7=.ptr (nx'+7) 0∧s1.env 25=.int .i64 p.hist.length∧s1.env 26=.int .i64 a.length∧s1.L (nx'+7)=some (.box (T 35) [.int .i64 p.t.1,.str p.t.2,.own id 6 0 p.hist.length])∧s1.L id=some (.vec (T 36) 6 ((a.map zSeq).map Rev.v++r.map Rev.v))) p.hist.length ?_ λm s1 hJ=>?_
      .simp only[push_cast,seval,-Nat.reducePow];exact⟨[],p.hist,rfl,rfl,rfl,by rw[aAc _ _ _ _ (by omega),aAc _ _ _ _ (by omega),hb];rfl⟩
      .obtain⟨a,r,ha,rfl,j7,j25,j26,e7,eb⟩:=hJ;have hl2:p.hist.length=a.length+r.length:=by rw[ha,yl]
       have u7:∀(M:Heap) b,upd M id b (nx'+7)=M (nx'+7):=λM b=>aAc _ _ _ _ (by omega);cases r with
       | nil =>
         have h1:¬((a.length:Nat):Int)<((p.hist.length:Nat):Int):=by simp at hl2;omega
         simp only[push_cast,seval,-Nat.reducePow,j7,j25,j26,e7,eb,h1];have ea:p.hist=a:=by rw[ha,yh]
         rw[revV,ea];have hv:=aN4 (n:=2) (sz:=6) eb (by rw[yb,yh];exact aA2 _ _ λ_=>rfl);simp only[yb,yh,zb]at hv;exact hv
       | cons x r =>
         rw[zg]at hl2;have h1:((a.length:Nat):Int)<((p.hist.length:Nat):Int):=by omega
         have hg:((a.map zSeq).map Rev.v++x.v::r.map Rev.v).getD a.length .junk=.agg [.int .i64 x.num,.str x.user,.str x.note,.str x.text,.int .i64 x.minute,.int .i64 x.seq]:=by simp[ze,Rev.v]
         have hs:∀c,((a.map zSeq).map Rev.v++x.v::r.map Rev.v).set a.length c=(a.map zSeq).map Rev.v++c::r.map Rev.v:=λc=>by rw[xE _ _ (by simp)];simp
         simp only[push_cast,seval,-Nat.reducePow,j7,j25,j26,e7,eb,h1,hg,u7,hs];exact⟨by omega,by simp,⟨by omega,by omega⟩,r.length,by omega,a++[x],r,by rw[ha];simp,rfl,by simp,by simp[zSeq,Rev.v]⟩
theorem t437(hf:bLo P F T)(l:List Rev)(hl:l.length<=2^30):PTr P (F 437) [revV l,revV l] (.bool true):=by
 have hlm:(l.map Rev.v).length=l.length:=zb ..;refine ptrC [] hf (by simp) rfl ?_;simp only[c437,push_cast,seval,-Nat.reducePow,revV,hlm];refine aAd (λm s1=>∃i,i<=l.length∧m=l.length-i∧s1.env 0=.lst 6 (l.map Rev.v)∧s1.env 1=.lst 6 (l.map Rev.v)∧s1.env 5=.int .i64 ((i:Nat):Int)) l.length ?_ λm s1 hJ=>?_
 .simp only[push_cast,seval,-Nat.reducePow];exact⟨0,by omega,rfl,rfl⟩
 .obtain⟨i,hi,rfl,j0,j1,j5⟩:=hJ;by_cases h:i<l.length
  .have h1:((i:Nat):Int)<((l.length:Nat):Int):=by omega
   have hg:(l.map Rev.v).getD i .junk=l[i].v:=by simp[zI,h]
   simp only[push_cast,seval,-Nat.reducePow,j0,j1,j5,h1,hlm,hg,Rev.v];exact⟨h,h,⟨by omega,by omega⟩,l.length-(i+1),by omega,i+1,by omega,rfl,by simp⟩
  .have h1:¬((i:Nat):Int)<((l.length:Nat):Int):=by omega
   simp only[push_cast,seval,-Nat.reducePow,j0,j1,j5,h1,hlm];exact aAb 3 _ rfl
theorem t438(hf:bKc P F T)(s:Stt)(u:List UInt8)(r:Int)(t:Ttl){x y z g:V}{b:Bool}(h334:PTr P (F 334) [s.v] (.agg [x,y,z]))(h209:PTr P (F 209) [.agg [x,y,z],.str u] g)(h192:PTr P (F 192) [.agg [x,y,z],g,.int .i64 r,tV t] (.bool b))
 (ix:V.imm (.agg [x,y,z])=true) (ig:g.imm=true) (ho:(x.one&&(y.one&&z.one))=true):PTr P (F 438) [s.v,.str u,.int .i64 r,tV t] (.bool b):=by
 refine ptrC [] hf (by simp) rfl ?_;simp only[c438,push_cast,seval,-Nat.reducePow,Stt.v,Stt.cs,stoV,pplV,watV,lasV,tV,tCs];simp only[Stt.v,Stt.cs,stoV,pplV,watV,lasV,tV,tCs]at h334 h192;refine aAa h334 (by simp only[V.imm,V.imms,aAh,aAo,aAv,aAw,zn]) ix ?_;simp only[push_cast,seval,-Nat.reducePow,ho];refine aAa h209 (by simp only[V.imms,ix];rfl) ig ?_;simp only[push_cast,seval,-Nat.reducePow,ho];refine aAa h192 (by simp only[V.imms,ix,ig];rfl) rfl ?_;rfl
def revL(b:Bool)(q:Option Sto):List Rev:=if b then(match q with|none=>[]|some p=>p.hist.map zSeq)else[]
theorem t381(hf:bKj P F T)(s:Stt)(u:List UInt8)(t:Ttl){b:Bool}(hh:∀p,aA7 s t=some p->p.hist.length<=2^30)(h299:PTr P (F 299) [s.v,tV t] (aE8 (aA7 s t)))(h438:PTr P (F 438) [s.v,.str u,.int .i64 1,tV t] (.bool b)):
 PTr P (F 381) [s.v,.str u,tV t] (ln 6 ((revL b (aA7 s t)).map Rev.v)):=by
 have hri:V.imm (ln 6 ((revL b (aA7 s t)).map Rev.v))=true:=by
  cases revL b (aA7 s t)with
  | nil=>rfl
  | cons x r=>simp only[List.map_cons,ln,V.imm];exact aA2 Rev.v (x::r) λ_=>rfl
 refine ptrC [] hf (by simp) hri ?_;simp only[c381,push_cast,seval,-Nat.reducePow,Stt.v,Stt.cs,stoV,pplV,watV,lasV,tV,tCs];simp only[Stt.v,Stt.cs,stoV,pplV,watV,lasV,tV,tCs]at h299 h438;refine aAa h299 (by simp only[V.imm,V.imms,aAh,aAo,aAv,aAw,zn]) (by cases aA7 s t<;>simp[aE8,V.imm,V.imms,aF4,aBd]) ?_;cases hp:aA7 s t with
 | none=>simp only[push_cast,seval,-Nat.reducePow,aE8];cases b<;>rfl
 | some p =>
   have h1v:(revV p.hist).one=true:=rfl;simp only[push_cast,seval,-Nat.reducePow,aE8,Sto.v,h1v];refine aAa h438 (by simp only[V.imm,V.imms,aAh,aAo,aAv,aAw,zn]) rfl ?_;cases b with
   | false=>simp only[push_cast,seval,-Nat.reducePow,revL];rfl
   | true =>
     have hln:(p.hist.map Rev.v).length=p.hist.length:=zb ..;simp only[push_cast,seval,-Nat.reducePow,revL];refine aEm ?_;cases hq:p.hist with
     | nil =>
       simp only[push_cast,seval,-Nat.reducePow,revV,hq];refine aAd (λm s1=>s1.env 9=.nils∧s1.env 10=.int .i64 0) 0 ?_ λm s1 hJ=>?_
       .simp only[push_cast,seval,-Nat.reducePow]
       .obtain⟨j9,j10⟩:=hJ;simp only[push_cast,seval,-Nat.reducePow,j9,j10];rfl
     | cons x0 r0 =>
       have hn:=hh p hp;have hq0:0<p.hist.length:=by rw[hq];simp
       simp only[push_cast,seval,-Nat.reducePow,revV,hq];have hlr:(r0.map Rev.v).length=r0.length:=zb ..;have hlq:p.hist.length=r0.length+1:=by rw[hq];rfl
       refine⟨by omega,?_⟩;refine aAd (λm s1=>∃a r,p.hist=a++r∧m=r.length∧s1.env 9=.own 148 6 0 p.hist.length∧s1.env 10=.int .i64 a.length∧s1.L 148=some (.vec (T 36) 6 ((a.map zSeq).map Rev.v++r.map Rev.v))) p.hist.length ?_ λm s1 hJ=>?_
       .simp only[push_cast,seval,-Nat.reducePow];exact⟨[],p.hist,rfl,rfl,by rw[hlr,hlq],rfl,by rw[hq];rfl⟩
       .obtain⟨a,r,ha,rfl,j9,j10,eb⟩:=hJ;have hl2:p.hist.length=a.length+r.length:=by rw[ha,yl]
        cases r with
        | nil =>
          have h1:¬((a.length:Nat):Int)<((p.hist.length:Nat):Int):=by simp at hl2;omega
          simp only[push_cast,seval,-Nat.reducePow,j9,j10,eb,h1];have ea:p.hist=a:=by rw[ha,yh]
          have hv:=aN4 (n:=2) (sz:=6) eb (by rw[yb,yh];exact aA2 _ _ λ_=>rfl);simp only[yb,yh,zb,<-ea]at hv;rw[hq]at hv ⊢;exact hv
        | cons x r =>
          rw[zg]at hl2;have h1:((a.length:Nat):Int)<((p.hist.length:Nat):Int):=by omega
          have hg:((a.map zSeq).map Rev.v++x.v::r.map Rev.v).getD a.length .junk=.agg [.int .i64 x.num,.str x.user,.str x.note,.str x.text,.int .i64 x.minute,.int .i64 x.seq]:=by simp[ze,Rev.v]
          have hs:∀c,((a.map zSeq).map Rev.v++x.v::r.map Rev.v).set a.length c=(a.map zSeq).map Rev.v++c::r.map Rev.v:=λc=>by rw[xE _ _ (by simp)];simp
          simp only[push_cast,seval,-Nat.reducePow,j9,j10,eb,h1,hg,hs];exact⟨by omega,by simp,⟨by omega,by omega⟩,r.length,by omega,a++[x],r,by rw[ha];simp,rfl,by simp,by simp[zSeq,Rev.v]⟩
theorem bMa(s:Stt):(polS s).g.length<=24:=by
 unfold polS;split
 .simp
 .unfold polF;split
  .simp
  .split
   .simp
   .split
    .simp
    .rename_i h;unfold valE at h;split at h
     .simp at h
     .simp only;omega
def SmA(s:Stt):Prop:=SmS s∧∀p,p∈s.pages->p.hist.length<=2^30
theorem bM3{s:Stt}(h:smS s=true):SmA s:=by
 refine⟨bUl h,λp hp=>?_⟩;unfold smS smB at h;simp only[zc,decide_eq_true_eq,zx]at h;have h3:=h.1.2 p hp;unfold smP at h3;simp only[zc,decide_eq_true_eq,zx]at h3;omega
theorem aKe{s:Stt}{t:Ttl}{p:Sto}(hp:aA7 s t=some p):p∈s.pages:=by
 unfold aA7 at hp;obtain⟨i,hi,rfl⟩:=Option.map_eq_some_iff.1 hp;exact aF5 hi
structure RvC(P:Program)(F T:Nat->Nat):Prop where
 f434:bIb P F T
 f435:bKm P F T
 f436:bKs P F T
 f437:bLo P F T
 f381:bKj P F T
 f438:bKc P F T
 f347:bLd P F T
 f348:bKp P F T
 C:PlC P F T
 M:MayC P F T
 R:RMayC P F T
 G:GrpC P F T
 RG:RGrC P F T
def revS(s:Stt)(u:List UInt8)(t:Ttl):List Rev:=revL (mayF (polS s).r (grpF u (polS s).g) 1 t.1 t.2) (aA7 s t)
theorem bF6(R:RvC P F T)(s:Stt)(hs:SmA s)(u:List UInt8)(t:Ttl):PTr P (F 434) [s.v,.str u,tV t] (revV (revS s u t))∧PTr P (F 381) [s.v,.str u,tV t] (revV (revS s u t)):=by
 obtain⟨h1,h2⟩:=R.C.pol s hs.1;have hT:=bNd s;have hgl:=bMa s;have hm:∀g,g∈(polS s).g->g.m.length<=2^60:=λg hg=>by have:=(hT.g g hg).2.2;omega
 have hrl:=hT.rl;have hgn:=bCp u (polS s).g;have gi:V.imm (.lst 1 ((grpF u (polS s).g).map V.str))=true:=by simp only[V.imm];exact aAp _
 have lv:V.le (polS s).v (.agg [.lst 2 (grV (polS s).g),.lst 6 (ruV (polS s).r),.lst 5 (gdV (polS s).d)]):=(polS s).v_w;have g1:=(bPx R.G (polS s).g (polS s).r (polS s).d u (by omega) hm).le (args:=[(polS s).v,.str u]) (by simp only[aBt,aC3,V.le_refl,and_true];exact lv);have g2:=(bH4 R.RG (polS s).g (polS s).r (polS s).d u (by omega) hm).le (args:=[(polS s).v,.str u]) (by simp only[aBt,aC3,V.le_refl,and_true];exact lv);have m1:=(bL1 R.M (sp:=t.1) (s:=t.2) (g:=grpF u (polS s).g) (by omega) (grV (polS s).g) (polS s).r (gdV (polS s).d) (aA6 _) (aBy _) (by omega) 1).le (args:=[(polS s).v,.lst 1 ((grpF u (polS s).g).map .str),.int .i64 1,tV t]) (by simp only[aBt,aC3,V.le_refl,and_true,true_and];exact⟨lv,V.le_refl _⟩);have m2:=(bEs R.R (sp:=t.1) (s:=t.2) (g:=grpF u (polS s).g) (by omega) (grV (polS s).g) (polS s).r (gdV (polS s).d) (aA6 _) (aBy _) (by omega) 1).le (args:=[(polS s).v,.lst 1 ((grpF u (polS s).g).map .str),.int .i64 1,tV t]) (by simp only[aBt,aC3,V.le_refl,and_true,true_and];exact⟨lv,V.le_refl _⟩);have hh:∀p,aA7 s t=some p->p.hist.length<=2^30:=λp hp=>hs.2 p (aKe hp);have io:∀x y z:V,V.imm (.agg [x,y,z])=true->x.imm=true∧y.imm=true∧z.imm=true:=λx y z h=>by simpa[V.imm,V.imms]using h
 obtain⟨ix,iy,iz⟩:=io _ _ _ (polS s).v_imm;have o3:((ln 2 (grV (polS s).g)).one&&((ln 6 (ruV (polS s).r)).one&&(ln 5 (gdV (polS s).d)).one))=true:=by rw[aBl,aBl,aBl];rfl
 have o4:((ln 2 (grV (polS s).g)).one&&((ln 6 (ruV (polS s).r)).one&&((ln 5 (gdV (polS s).d)).one&&(V.lst 1 ((grpF u (polS s).g).map V.str)).one)))=true:=by rw[aBl,aBl,aBl];rfl
 refine⟨?_,?_⟩
 .have k1:=t347 R.f347 s u h1 g1 ix iy iz o3 gi rfl rfl rfl;have k2:=t348 R.f348 t (λr=>mayF (polS s).r (grpF u (polS s).g) r t.1 t.2) [1] (λr hr=>by obtain rfl:=List.mem_singleton.1 hr;exact m1) ix iy iz gi o4 (by simp);rw[show[(1:Int)].all (λr=>mayF (polS s).r (grpF u (polS s).g) r t.1 t.2)=mayF (polS s).r (grpF u (polS s).g) 1 t.1 t.2 from Bool.and_true _]at k2;refine(t434 R.f434 s u t hh (e435 R.f435 s t hs.1.1 λp hp=>e436 R.f436 p (e357 R.C.f357 R.C.c0 p.hist (hh p hp))) k1 (by simp only[V.imm,V.imms]at ix iy iz gi ⊢;simp only[ix,iy,iz,gi,zn]) k2).res ?_;unfold revS revO revL;cases mayF (polS s).r (grpF u (polS s).g) 1 t.1 t.2 with
  | false=>exact aJv
  | true =>
    cases aA7 s t with
    | none=>exact aJv
    | some p=>exact V.le_refl _
 .have k1:=t438 R.f438 s u 1 t h2 g2 m2 (polS s).v_imm gi o3;refine(t381 R.f381 s u t hh (t299 R.C.f299 R.C.f300 s t hs.1.1) k1).res ?_;exact bC1 (V.leL_refl _)
def aTf:List (List UInt8):=[[],[97,110,110],[98,111,98],[99,121]]
theorem t344(hf:bG9 P F T):PTr P (F 344) [] (.lst 1 (aTf.map .str)):=by
 refine ptrC [] hf (by simp) rfl ?_;simp only[c344,push_cast,seval,-Nat.reducePow];rfl
structure HvF(P:Program)(F T:Nat->Nat):Prop where
 f379:bOx P F T
 f380:bG8 P F T
 f428:bC7 P F T
 f344:bG9 P F T
 f345:aWz P F T
 f330:bK1 P F T
 f378:bCm P F T
 e340:F 340=F 434
theorem bFf{w:List UInt8}{k:Nat}{top:Int}{s:Stt}(h:MstP usT ttT w k top s)(u:List UInt8)(t:Ttl):(∀(i:Nat) (hi:i<(revS s u t).length),(revS s u t)[i].num=i+1)∧∀(i:Nat) (hi:i<(revS s u t).length),(revS s u t)[i].seq=0:=by
 unfold revS revL;cases mayF (polS s).r (grpF u (polS s).g) 1 t.1 t.2 with
 | false=>exact⟨λi hi=>by simp at hi,λi hi=>by simp at hi⟩
 | true =>
   cases hp:aA7 s t with
   | none=>exact⟨λi hi=>by simp at hi,λi hi=>by simp at hi⟩
   | some p =>
     have h3:=(h.pagp p (aKe hp)).2.1.2.2.1;refine⟨λi hi=>?_,λi hi=>?_⟩
     .have:=h3 i (by simpa using hi);simp[zSeq,this]
     .simp[zSeq]
theorem aS3{s:Stt}(h:SmA s)(u:List UInt8)(t:Ttl):(revS s u t).length<=2^30:=by
 unfold revS revL;cases mayF (polS s).r (grpF u (polS s).g) 1 t.1 t.2 with
 | false=>simp
 | true =>
   cases hp:aA7 s t with
   | none=>simp
   | some p=>simpa using h.2 p (aKe hp)
set_option maxHeartbeats 1000000 in
theorem t379{ok:Ttl->Bool}{nm:List UInt8->Bool}(E:HvF P F T)(R:RvC P F T)(G:GnF P F T)(H:StE P F T usT ttT ok nm)(hpol:∀w,w∈aC5->PolC P F w∧w.length<=8000)(h335:PTr P (F 335) [] (.bool true))(s:Stt)(u:List UInt8)(t:Ttl)(l:List Int)(hl:l.length<2^63)(who at':Int):
 PTr P (F 379) [s.v,.str u,tV t,.lst 1 (ints l),.int .i64 who,.int .i64 at'] (.bool true):=by
 have h380:=t380 E.f380 E.f428 s;have sti:∀s:Stt,V.imm (.agg [.int .i64 s.seq,.int .i64 s.clock,.lst 3 (s.pages.map Sto.v),.lst 3 (s.gone.map Sto.v),.lst 8 (s.props.map Ppl.v),.int .i64 s.proposed,.lst 3 (s.watches.map Wat.v),.lst 2 (s.lasts.map Las.v)])=true:=λs=>aMn s;have hgs:∀{L:Heap} {nx:Nat},ECall P (F 330) [.lst 1 (ints l)] L nx λv L' nx'=>(∃w,w=polW l∧w∈aC5∧staR w 30 v)∧nx<=nx'∧∀b,b<nx->L' b=L b:=λ{L nx}=>bEm E.f330 E.f378 G H (λw hw=>⟨(hpol w hw).1,by have:=(hpol w hw).2;omega⟩) l hl
 refine ptrC [] E.f379 (by simp) rfl ?_;by_cases hs:smS s=true
 rotate_left
 .have hs':smS s=false:=by simpa using hs
  rw[hs']at h380;simp only[c379,push_cast,seval,-Nat.reducePow,Stt.v,Stt.cs,stoV,pplV,watV,lasV,tV,tCs];simp only[Stt.v,Stt.cs,stoV,pplV,watV,lasV]at h380;refine aAa h380 (by simp only[V.imms,sti,zn]) (by rfl) ?_;simp only[push_cast,seval,-Nat.reducePow];refine aAa h335 (by rfl) (by rfl) ?_;exact aAb 3 _ rfl
 rw[hs]at h380;obtain⟨a1,a2⟩:=bF6 R s (bM3 hs) u t;rw[<-E.e340]at a1;simp only[c379,push_cast,seval,-Nat.reducePow,Stt.v,Stt.cs,stoV,pplV,watV,lasV,tV,tCs];simp only[Stt.v,Stt.cs,stoV,pplV,watV,lasV,tV,tCs]at h380 a1 a2;refine aAa h380 (by simp only[V.imms,sti,zn]) (by rfl) ?_;simp only[push_cast,seval,-Nat.reducePow];refine aAg hgs ?_;rintro v L1 nx1 ⟨⟨w,hw,hwm,s1,rfl,hm1,hq1⟩,n1,f1⟩;have g6:=f1 6 (by omega);have g8:=f1 8 (by omega);simp only[push_cast,seval,-Nat.reducePow]at g6 g8;simp only[push_cast,seval,-Nat.reducePow,Stt.v,Stt.cs,stoV,pplV,watV,lasV,g6,g8];have hr368:=G.f368;refine aAa (t344 E.f344) (by rfl) (by rfl) ?_;simp only[push_cast,seval,-Nat.reducePow];refine aAa (bBy hr368 who 4 (by decide) (by decide)) (by rfl) (by rfl) ?_;obtain⟨k0,k1⟩:=aQj who (n:=4) (by decide);have ku:(rndN who 4).toNat<(aTf.map V.str).length:=by rw[zb];show _<4;omega
 have kt:∀i:Nat,i<(aB9.map tV).length->∃x:Ttl,(aB9.map tV).getD i .junk=.agg [.int .i64 x.1,.str x.2]:=λi hi=>by rw[zb]at hi;exact⟨aB9[i],by simp[zI,hi,tV,tCs]⟩
 obtain⟨uu,hu⟩:∃x,(aTf.map V.str).getD (rndN who 4).toNat .junk=.str x:=by rw[zb]at ku;exact⟨aTf[(rndN who 4).toNat],by simp[zI,ku]⟩
 simp only[push_cast,seval,-Nat.reducePow,k0,hu];refine⟨ku,?_⟩;refine aAa (t345 E.f345) (by rfl) (by rfl) ?_;simp only[push_cast,seval,-Nat.reducePow];refine aAa (bBy hr368 at' 8 (by decide) (by decide)) (by rfl) (by rfl) ?_;obtain⟨b0,b1⟩:=aQj at' (n:=8) (by decide);have kb:(rndN at' 8).toNat<(aB9.map tV).length:=by rw[zb];show _<8;omega
 obtain⟨tt,ht⟩:=kt _ kb;simp only[push_cast,seval,-Nat.reducePow,b0,ht];refine⟨kb,?_⟩;obtain⟨x1,x2⟩:=bUu (hpol w hwm).2 (by omega) hm1;have y1:SmA s1:=⟨x1,λp hp=>by have:=(hm1.pagp p hp).2.2;omega⟩;obtain⟨b1',b2'⟩:=bF6 R s1 y1 uu (tt.1,tt.2);rw[<-E.e340]at b1';obtain⟨z1,z2⟩:=bFf hm1 uu (tt.1,tt.2);simp only[Stt.v,Stt.cs,stoV,pplV,watV,lasV,tV,tCs]at b1' b2';generalize hRL:revS s1 uu (tt.1,tt.2)=RL at b1' b2' z1 z2;have hln:(RL.map Rev.v).length=RL.length:=zb ..;have hl30:RL.length<=2^30:=by rw[<-hRL];exact aS3 y1 uu _
 refine aAa b1' (by simp only[V.imms,sti];rfl) (aBd _) ?_;simp only[push_cast,seval,-Nat.reducePow,revV];refine aAd (λm s2=>∃i,i<=RL.length∧m=RL.length-i∧s2.env 1=.str u∧s2.env 6=.ptr 6 0∧s2.env 8=.ptr 8 0∧s2.env 13=.ptr (nx1+13) 0∧s2.env 14=.str uu∧s2.env 15=.ptr (nx1+95) 0∧s2.env 16=.lst 6 (RL.map Rev.v)∧s2.env 17=.int .i64 ((i:Nat):Int)∧s2.L 6=some (.box (T 34) [.int .i64 s.seq,.int .i64 s.clock,.lst 3 (s.pages.map Sto.v),.lst 3 (s.gone.map Sto.v),.lst 8 (s.props.map Ppl.v),.int .i64 s.proposed,.lst 3 (s.watches.map Wat.v),.lst 2 (s.lasts.map Las.v)]) ∧
  s2.L 8=some (.box (T 17) [.int .i64 t.1,.str t.2])∧s2.L (nx1+13)=some (.box (T 34) [.int .i64 s1.seq,.int .i64 s1.clock,.lst 3 (s1.pages.map Sto.v),.lst 3 (s1.gone.map Sto.v),.lst 8 (s1.props.map Ppl.v),.int .i64 s1.proposed,.lst 3 (s1.watches.map Wat.v),.lst 2 (s1.lasts.map Las.v)])∧s2.L (nx1+95)=some (.box (T 17) [.int .i64 tt.1,.str tt.2])) RL.length ?_ λm s2 hJ=>?_
 .simp only[push_cast,seval,-Nat.reducePow];exact⟨0,by omega,by omega,rfl,g6,g8⟩
 .obtain⟨i,hi,rfl,j1,j6,j8,j13,j14,j15,j16,j17,e6,e8,e13,e15⟩:=hJ;by_cases h:i<RL.length
  .have h1:((i:Nat):Int)<((RL.length:Nat):Int):=by omega
   have hg:(RL.map Rev.v).getD i .junk=RL[i].v:=by simp[zI,h]
   have q1:=z1 i h;have q2:=z2 i h;simp only[push_cast,seval,-Nat.reducePow,j1,j6,j8,j13,j14,j15,j16,j17,e6,e8,e13,e15,h1,hln,hg,Rev.v,q1,q2];exact⟨h,h,⟨by omega,by omega⟩,⟨by omega,by omega⟩,RL.length-(i+1),by omega,i+1,by omega,rfl,by simp⟩
  .have h1:¬((i:Nat):Int)<((RL.length:Nat):Int):=by omega
   simp only[push_cast,seval,-Nat.reducePow,j1,j6,j8,j13,j14,j15,j16,j17,e6,e8,e13,e15,h1,hln];refine aAa h335 (by rfl) (by rfl) ?_;simp only[push_cast,seval,-Nat.reducePow,j1,j6,j8,j13,j14,j15,j16,j17,e6,e8,e13,e15];refine aAa a1 (by simp only[V.imms,sti];rfl) (aBd _) ?_;simp only[push_cast,seval,-Nat.reducePow,j1,j6,j8,j13,j14,j15,j16,j17,e6,e8,e13,e15];refine aAa a2 (by simp only[V.imms,sti];rfl) (aBd _) ?_;refine aAa (t437 R.f437 _ (aS3 (bM3 hs) u t)) (by simp only[V.imms,aBd];rfl) (by rfl) ?_;simp only[push_cast,seval,-Nat.reducePow,j1,j6,j8,j13,j14,j15,j16,j17,e6,e8,e13,e15];refine aAa b2' (by simp only[V.imms,sti];rfl) (aBd _) ?_;refine aAa (t437 R.f437 RL hl30) (by simp only[V.imms,aBd,show V.imm (.lst 6 (RL.map Rev.v))=true from aBd RL];rfl) (by rfl) ?_;exact aAb 3 _ rfl
end Go.Ab
