import Derived.Test.YtikmbicdjpkipaaGreatDoorAbL1
open Bool renaming and_self->zn
open List renaming length_map->zb,getD_eq_getElem?_getD->ze
set_option linter.unusedSimpArgs false
set_option linter.unusedVariables false
namespace Go.Ab
def c350(F T:Nat->Nat):C:=.n [.alloc 0 (T 17) [(.int .i64 0),(.str [])]]<|.n [.build (some 1) [(.int .i64 0),(.str [])] [(0,1,(.i 5)),(1,1,(.s [80,111,108,105,99,121]))],.store 2 (.t 0) (.t 1)]<|.ret
abbrev bD1(P:Program)(F T:Nat->Nat):Prop:=Fn P (F 350) 2 [(0,(some (2,true)))] (c350 F T)
def c351(F T:Nat->Nat):C:=.n [.box 2 (T 34) (.t 0),.box 3 (T 17) (.t 1),.mov (some 4) (.s []),.mov (some 5) (.k (.bool false))]<|.n [.load (some 9) false 8 true (.t 2),.load (some 10) false 2 true (.t 3),.c 11 (F 299) [.t 9,.t 10],.m 8 11,.x 12 0 8,.x 13 1 8,.alloc 6 (T 35) [(.int .i64 0),(.str []),.nils],.store 3 (.t 6) (.t 12),.m 7 13]<|.n [.load (some 14) false 3 true (.t 6),.c 15 (F 301) [.t 14],.field (some 16) 3 1 false (.t 15),.m 17 7,.m 4 16,.m 5 17]<|.ret
abbrev bDh(P:Program)(F T:Nat->Nat):Prop:=Fn P (F 351) 18 [(4,none),(5,none)] (c351 F T)
def c334(F T:Nat->Nat):C:=.n [.box 1 (T 34) (.t 0),.alloc 2 (T 16) [.nils,.nils,.nils]]<|.seq (.p [.load (some 9) false 8 true (.t 1),.c 10 (F 350) [],.c 11 (F 351) [.t 9,.t 10],.m 8 11,.x 12 0 8,.x 13 1 8,.m 3 12,.m 4 13])<|.seq (.n [.m 14 4,.un (some 15) .not (.t 14)]<|.cond (.t 15) (.n [.build (some 16) [.nils,.nils,.nils] [],.store 3 (.t 2) (.t 16)]<|.ret) (.skip))<|.n [.m 18 3,.c 19 (F 316) [.t 18],.m 17 19,.x 20 0 17,.x 21 1 17,.x 22 2 17,.alloc 5 (T 16) [.nils,.nils,.nils],.store 3 (.t 5) (.t 20),.m 6 21,.m 7 22]<|.seq (.n [.m 23 7,.bi 24 .neq 23 0]<|.cond (.t 24) (.n [.build (some 25) [.nils,.nils,.nils] [],.store 3 (.t 2) (.t 25)]<|.ret) (.skip))<|.n [.load (some 26) false 3 true (.t 5),.store 3 (.t 2) (.t 26)]<|.ret
abbrev bLa(P:Program)(F T:Nat->Nat):Prop:=Fn P (F 334) 27 [(2,(some (3,true)))] (c334 F T)
def c357(F T:Nat->Nat):C:=.n [.mov (some 2) (.k .nils)]<|.seq (.n [.m 3 0,.isnil (some 4) false 1 (.t 3)]<|.cond (.t 4) (.n [.mov (some 2) (.k .nils)]<|.ret) (.skip))<|.n [.mkv 5 (T 36) 6 [],.m 6 0,.app 7 (T 36) 6 (.t 5) (.t 6),.m 2 7]<|.ret
abbrev bFl(P:Program)(F T:Nat->Nat):Prop:=Fn P (F 357) 8 [(2,none)] (c357 F T)
def c371(F T:Nat->Nat):C:=.n [.box 1 (T 35) (.t 0),.alloc 2 (T 35) [(.int .i64 0),(.str []),.nils]]<|.n [.f 3 2 1,.l 4 3,.c 5 (F 357) [.t 4],.f 6 2 1,.store 1 (.t 6) (.t 5)]<|.n [.load (some 7) false 3 true (.t 1),.store 3 (.t 2) (.t 7)]<|.ret
abbrev bDf(P:Program)(F T:Nat->Nat):Prop:=Fn P (F 371) 8 [(2,(some (3,true)))] (c371 F T)
def c346(F T:Nat->Nat):C:=.n [.box 2 (T 34) (.t 0),.box 3 (T 17) (.t 1),.alloc 4 (T 35) [(.int .i64 0),(.str []),.nils],.mov (some 5) (.k (.bool false))]<|.seq (.n [.f 8 2 2,.l 9 8,.ll 10 9,.mov (some 11) (.i 0)]<|.block 0<|.loop<|.n [.b 12 .lss 11 10]<|.seq (.cond (.t 12) (.skip) (.exit 0))<|.seq (.block 1<|.n [.ia 13 3 9 11,.load (some 14) false 3 true (.t 13),.alloc 7 (T 35) [(.int .i64 0),(.str []),.nils],.store 3 (.t 7) (.t 14)]<|.n [.f 15 0 7,.load (some 16) false 2 true (.t 15),.load (some 17) false 2 true (.t 3),.eqA (some 18) false [0,1] (.t 16) (.t 17)]<|.cond (.t 18) (.n [.load (some 19) false 3 true (.t 7),.c 20 (F 371) [.t 19],.store 3 (.t 4) (.t 20),.mov (some 5) (.k (.bool true))]<|.ret) (.skip))<|.o [.bi 21 .add 11 1,.m 11 21])<|.n [.build (some 22) [(.int .i64 0),(.str []),.nils] [],.store 3 (.t 4) (.t 22),.mov (some 5) (.k (.bool false))]<|.ret
abbrev bE8(P:Program)(F T:Nat->Nat):Prop:=Fn P (F 346) 23 [(4,(some (3,true))),(5,none)] (c346 F T)
def c360(F T:Nat->Nat):C:=.n [.box 1 (T 35) (.t 0),.alloc 2 (T 36) [(.int .i64 0),(.str []),(.str []),(.str []),(.int .i64 0),(.int .i64 0)]]<|.seq (.n [.f 3 2 1,.l 4 3,.ll 5 4,.bi 6 .eql 5 0]<|.cond (.t 6) (.n [.build (some 7) [(.int .i64 0),(.str []),(.str []),(.str []),(.int .i64 0),(.int .i64 0)] [],.store 6 (.t 2) (.t 7)]<|.ret) (.skip))<|.n [.f 8 2 1,.l 9 8,.f 10 2 1,.l 11 10,.ll 12 11,.bi 13 .sub 12 1,.ia 14 6 9 13,.load (some 15) false 6 true (.t 14),.store 6 (.t 2) (.t 15)]<|.ret
abbrev bI2(P:Program)(F T:Nat->Nat):Prop:=Fn P (F 360) 16 [(2,(some (6,true)))] (c360 F T)
def c359(F T:Nat->Nat):C:=.n [.box 1 (T 34) (.t 0),.alloc 2 (T 16) [.nils,.nils,.nils]]<|.n [.load (some 9) false 8 true (.t 1),.load (some 10) false 2 true (.k (.cptr [(.int .i64 5),(.str [80,111,108,105,99,121])])),.c 11 (F 346) [.t 9,.t 10],.m 8 11,.x 12 0 8,.x 13 1 8,.alloc 3 (T 35) [(.int .i64 0),(.str []),.nils],.store 3 (.t 3) (.t 12),.m 4 13]<|.seq (.n [.m 14 4,.un (some 15) .not (.t 14)]<|.cond (.t 15) (.n [.build (some 16) [.nils,.nils,.nils] [],.store 3 (.t 2) (.t 16)]<|.ret) (.skip))<|.n [.load (some 18) false 3 true (.t 3),.c 19 (F 360) [.t 18],.field (some 20) 3 1 false (.t 19),.c 21 (F 361) [.t 20],.m 17 21,.x 22 0 17,.x 23 1 17,.x 24 2 17,.alloc 5 (T 16) [.nils,.nils,.nils],.store 3 (.t 5) (.t 22),.m 6 23,.m 7 24]<|.seq (.n [.m 25 7,.bi 26 .neq 25 0]<|.cond (.t 26) (.n [.build (some 27) [.nils,.nils,.nils] [],.store 3 (.t 2) (.t 27)]<|.ret) (.skip))<|.n [.load (some 28) false 3 true (.t 5),.store 3 (.t 2) (.t 28)]<|.ret
abbrev bLi(P:Program)(F T:Nat->Nat):Prop:=Fn P (F 359) 29 [(2,(some (3,true)))] (c359 F T)
variable {P:Program} {F T:Nat->Nat}
theorem t350(hf:bD1 P F T):PTr P (F 350) [] (tV polT):=by
 refine ptrC [] hf (by simp) rfl ?_;simp only[c350,push_cast,seval,-Nat.reducePow];rfl
theorem t351(hf:bDh P F T)(h299:aR7 P F T)(h300:aH8 P F T)(h301:aQy P F T)(s:Stt)(t:Ttl)(p:Sto)(hp:aA7 s t=some p)(hl:s.pages.length<=2^30)(hh:p.hist.length<=2^30):PTr P (F 351) [s.v,tV t] (.tup [.str (curS p).text,.bool true]):=by
 have h1:=t299 h299 h300 s t hl;rw[hp]at h1;have h2:=t301 h301 p hh;refine ptrC [] hf (by simp) rfl ?_;have h1v:(revV p.hist).one=true:=rfl;simp only[c351,push_cast,seval,-Nat.reducePow,Stt.v,Stt.cs,stoV,pplV,watV,lasV,tV,tCs];refine aAa h1 (by simp only[push_cast,seval,-Nat.reducePow,V.imm,V.imms,aAh,aAo,aAv,aAw]) (by simp[aE8,V.imm,V.imms,aF4]) ?_;simp only[push_cast,seval,-Nat.reducePow,aE8,Sto.v,h1v];simp only[Rev.v,Sto.v]at h2;refine aAa h2 (by simp only[V.imm,V.imms,aBd,zn]) (by rfl) ?_;simp only[push_cast,seval,-Nat.reducePow];rfl
theorem t357(hf:bFl P F T)(h:List Rev)(h0:0<h.length)(hl:h.length<=2^30):PTr P (F 357) [revV h] (revV h):=by
 have hln:(h.map Rev.v).length=h.length:=zb ..;refine ptrC [] hf (by simp) (aBd _) ?_;simp only[c357,push_cast,seval,-Nat.reducePow,revV,hln];exact⟨h0,by omega,by rw[<-hln];exact aN4 (n:=2) (aAe _ _ _) (aA2 _ _ λ_=>rfl)⟩
theorem t371(hf:bDf P F T)(p:Sto)(hc:PTr P (F 357) [revV p.hist] (revV p.hist)):PTr P (F 371) [p.v] p.v:=by
 refine ptrC [] hf (by simp) (aF4 _) ?_;have h1v:(revV p.hist).one=true:=rfl;have hcl:(revV p.hist).cells=[revV p.hist]:=rfl;have hnc:(revV p.hist).ncells=some 1:=rfl;simp only[c371,push_cast,seval,-Nat.reducePow,Sto.v,h1v];refine aAa hc (by simp only[V.imm,V.imms,aBd,zn]) (aBd _) ?_;simp only[push_cast,seval,-Nat.reducePow,h1v,hcl,hnc];rfl
theorem aVt{s:Stt}{t:Ttl}{p:Sto}(h:aA7 s t=some p):∃a r,s.pages=a++p::r∧(∀q,q∈a->q.t≠t)∧p.t=t:=by
 unfold aA7 at h;obtain⟨i,hi,rfl⟩:=Option.map_eq_some_iff.1 h;obtain⟨h1,h2⟩:=aBu hi;obtain⟨_,_,h3⟩:=List.findIdx?_eq_some_iff_getElem.1 hi;have hg:s.pages.getD i zSto=s.pages[i]:=by grind
 refine⟨s.pages.take i,s.pages.drop (i+1),?_,λq hq=>?_,h2⟩
 .simp_all
 .obtain⟨j,hj,e⟩:=List.mem_iff_getElem.1 hq;grind
theorem t346(hf:bE8 P F T)(h371:bDf P F T)(s:Stt)(t:Ttl)(p:Sto)(hp:aA7 s t=some p)(hcl:PTr P (F 357) [revV p.hist] (revV p.hist))(hl:s.pages.length<=2^30):PTr P (F 346) [s.v,tV t] (.tup [p.v,.bool true]):=by
 have hlp:(s.pages.map Sto.v).length=s.pages.length:=zb ..;obtain⟨a,r,hal,hno,hpt⟩:=aVt hp;have hal2:s.pages.length=a.length+(r.length+1):=by grind
 refine ptrC [] hf (by simp) (by simp[V.imm,V.imms,aF4]) ?_;simp only[c346,push_cast,seval,-Nat.reducePow,Stt.v,Stt.cs,stoV,pplV,watV,lasV,tV,tCs,hlp];refine aAd (λm s1=>∃b q,a=b++q∧m=q.length∧s1.env 2=.ptr 2 0∧s1.env 3=.ptr 3 0∧s1.env 4=.ptr 4 0∧s1.env 9=.lst 3 (s.pages.map Sto.v)∧s1.env 10=.int .i64 s.pages.length∧s1.env 11=.int .i64 b.length∧s1.L 3=some (.box (T 17) [.int .i64 t.1,.str t.2])∧s1.L 4=some (.box (T 35) [.int .i64 0,.str [],.nils])∧4<s1.nx) a.length ?_ λm s1 hJ=>?_
 .simp only[push_cast,seval,-Nat.reducePow];exact⟨[],a,rfl,rfl,rfl⟩
 .obtain⟨b,q,hb,rfl,j2,j3,j4,j9,j10,j11,e3,e4,jn⟩:=hJ;have hb2:a.length=b.length+q.length:=by grind
  have h1:((b.length:Nat):Int)<((s.pages.length:Nat):Int):=by omega
  cases q with
  | nil =>
    have hg:(s.pages.map Sto.v).getD b.length .junk=.agg [.int .i64 p.t.1,.str p.t.2,revV p.hist]:=by rw[hal,hb];simp[ze,Sto.v]
    have h1v:(revV p.hist).one=true:=rfl;have e1:p.t.1=t.1:=by rw[hpt]
    have e2:p.t.2=t.2:=by rw[hpt]
    have hc:=t371 h371 p hcl;simp only[Sto.v,e1,e2]at hc;simp only[push_cast,seval,-Nat.reducePow,j2,j3,j4,j9,j10,j11,e3,e4,h1,hg,h1v,e1,e2];refine⟨by omega,aAa hc (by simp only[V.imm,V.imms,aBd,zn]) (by simp only[V.imm,V.imms,aBd,zn]) ?_⟩;simp only[push_cast,seval,-Nat.reducePow,j2,j3,j4,j9,j10,j11,e3,e4,h1v];rw[show p.v=.agg [.int .i64 t.1,.str t.2,revV p.hist]from by grind];rfl
  | cons x q =>
    rw[List.length_cons]at hb2;have hg:(s.pages.map Sto.v).getD b.length .junk=.agg [.int .i64 x.t.1,.str x.t.2,revV x.hist]:=by rw[hal,hb];simp[ze,Sto.v]
    have h1v:(revV x.hist).one=true:=rfl;have hx:=hno x (by grind);have hd:(decide (x.t.1=t.1)&&decide (x.t.2=t.2))=false:=by grind
    simp only[push_cast,seval,-Nat.reducePow,j2,j3,j4,j9,j10,j11,e3,e4,h1,hg,h1v,hd];exact⟨by omega,⟨by omega,by omega⟩,q.length,by omega,b++[x],q,by grind,rfl,by simp,by omega⟩
theorem t360(hf:bI2 P F T)(p:Sto)(hl:p.hist.length<=2^30):PTr P (F 360) [p.v] (curS p).v:=by
 refine ptrC [] hf (by simp) rfl ?_;have hlen:(p.hist.map Rev.v).length=p.hist.length:=zb ..;have h1v:(V.lst 6 (p.hist.map Rev.v)).one=true:=rfl;simp only[c360,push_cast,seval,-Nat.reducePow,Sto.v,revV,h1v,hlen];refine aAy (λh=>?_) (λh=>?_)
 .have hn:p.hist=[]:=List.eq_nil_of_length_eq_zero (by omega);have hc:curS p=zRev:=by simp[curS,hn]
  rw[hc];simp only[push_cast,seval,-Nat.reducePow,hn];rfl
 .have hc:curS p=p.hist.getD (p.hist.length-1) zRev:=by
   rw[curS,List.getLast?_eq_getElem?,ze]
  have hi:p.hist.length-1<p.hist.length:=by omega
  have hg:(p.hist.map Rev.v).getD (((p.hist.length:Nat):Int)-1).toNat .junk=(curS p).v:=by simp_all
  have h0:(0:Int)<=((p.hist.length:Nat):Int)-1:=by omega
  have hv:(curS p).v=.agg [.int .i64 (curS p).num,.str (curS p).user,.str (curS p).note,.str (curS p).text,.int .i64 (curS p).minute,.int .i64 (curS p).seq]:=rfl;rw[hv]at hg ⊢;simp only[push_cast,seval,-Nat.reducePow,hlen,hg,h0];exact⟨⟨by omega,by omega⟩,by omega,aAb 3 _ rfl⟩
end Go.Ab
