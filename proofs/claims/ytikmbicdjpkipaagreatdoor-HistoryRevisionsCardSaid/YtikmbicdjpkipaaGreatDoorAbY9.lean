import Derived.Test.YtikmbicdjpkipaaGreatDoorAbJ1
import Derived.Test.YtikmbicdjpkipaaGreatDoorAbL2
open Bool renaming and_self->zn
open List renaming length_map->zb,length_cons->zg,getD_eq_getElem?_getD->ze
set_option linter.unusedSimpArgs false
set_option linter.unusedVariables false
namespace Go.Ab
def c347(F T:Nat->Nat):C:=.n [.box 2 (T 34) (.t 0),.alloc 4 (T 43) [.nils,.nils,.nils,.nils]]<|.n [.load (some 6) false 8 true (.t 2),.c 7 (F 359) [.t 6],.alloc 5 (T 16) [.nils,.nils,.nils],.store 3 (.t 5) (.t 7)]<|.seq (.p [.load (some 8) false 3 true (.t 5),.load (some 9) false 3 true (.t 5),.m 10 1,.c 11 (F 180) [.t 9,.t 10],.build (some 12) [.nils,.nils,.nils,.nils] [(0,3,(.t 8)),(3,1,(.t 11))],.store 4 (.t 4) (.t 12)])<|.ret
abbrev bLd(P:Program)(F T:Nat->Nat):Prop:=Fn P (F 347) 13 [(4,(some (4,true)))] (c347 F T)
def c348(F T:Nat->Nat):C:=.n [.box 3 (T 43) (.t 0),.box 4 (T 17) (.t 1),.mov (some 6) (.k (.bool false))]<|.seq (.n [.m 9 2,.ll 10 9,.mov (some 11) (.i 0)]<|.block 0<|.loop<|.n [.b 12 .lss 11 10]<|.seq (.cond (.t 12) (.skip) (.exit 0))<|.seq (.block 1<|.n [.ia 13 1 9 11,.l 14 13,.m 8 14]<|.n [.f 15 0 3,.load (some 16) false 3 true (.t 15),.f 17 3 3,.l 18 17,.m 19 8,.load (some 20) false 2 true (.t 4),.c 21 (F 178) [.t 16,.t 18,.t 19,.t 20],.un (some 22) .not (.t 21)]<|.cond (.t 22) (.n [.mov (some 6) (.k (.bool false))]<|.ret) (.skip))<|.o [.bi 23 .add 11 1,.m 11 23])<|.n [.mov (some 6) (.k (.bool true))]<|.ret
abbrev bKp(P:Program)(F T:Nat->Nat):Prop:=Fn P (F 348) 24 [(6,none)] (c348 F T)
variable {P:Program} {F T:Nat->Nat}
theorem t347(hf:bLd P F T)(s:Stt)(u:List UInt8){x y z g:V}(h359:PTr P (F 359) [s.v] (.agg [x,y,z]))(h180:PTr P (F 180) [.agg [x,y,z],.str u] g)(ix:x.imm=true)(iy:y.imm=true)(iz:z.imm=true)(ho:(x.one&&(y.one&&z.one))=true)(ig:g.imm=true)(hg1:g.one=true)(hgc:g.cells=[g])(hgn:g.ncells=some 1):
 PTr P (F 347) [s.v,.str u] (.agg [x,y,z,g]):=by
 have him:(V.agg [x,y,z,g]).imm=true:=by simp only[V.imm,V.imms,ix,iy,iz,ig,zn]
 have ho4:(x.one&&(y.one&&(z.one&&g.one)))=true:=by grind
 refine ptrC [] hf (by simp) him ?_;simp only[c347,push_cast,seval,-Nat.reducePow,Stt.v,Stt.cs,stoV,pplV,watV,lasV];refine aAa h359 (by simp only[push_cast,seval,-Nat.reducePow,V.imm,V.imms,aAh,aAo,aAv,aAw]) (by simp only[V.imm,V.imms,ix,iy,iz,zn]) ?_;simp only[push_cast,seval,-Nat.reducePow,ho];refine aAa h180 (by simp only[V.imm,V.imms,ix,iy,iz,zn]) ig ?_;simp only[push_cast,seval,-Nat.reducePow,ho,ho4,hgc,hgn,hg1];exact aAb 3 _ him
theorem t348(hf:bKp P F T)(t:Ttl)(b:Int->Bool){x y z g:V}(rs:List Int)(hm:∀r,r∈rs->PTr P (F 178) [.agg [x,y,z],g,.int .i64 r,tV t] (.bool (b r)))(ix:x.imm=true)(iy:y.imm=true)(iz:z.imm=true)(ig:g.imm=true)(ho:(x.one&&(y.one&&(z.one&&g.one)))=true)(hl:rs.length<=10):
 PTr P (F 348) [.agg [x,y,z,g],tV t,.lst 1 (ints rs)] (.bool (rs.all b)):=by
 have hlr:(ints rs).length=rs.length:=zb ..;refine ptrC [] hf (by simp) rfl ?_;simp only[c348,push_cast,seval,-Nat.reducePow,tV,tCs,hlr,ho];refine aAd (λm s1=>∃a q,rs=a++q∧m=q.length∧a.all b=true∧s1.env 3=.ptr 3 0∧s1.env 4=.ptr 4 0∧s1.env 9=.lst 1 (ints rs)∧s1.env 10=.int .i64 rs.length∧s1.env 11=.int .i64 a.length∧s1.L 3=some (.box (T 43) [x,y,z,g])∧s1.L 4=some (.box (T 17) [.int .i64 t.1,.str t.2])∧4<s1.nx) rs.length ?_ λm s1 hJ=>?_
 .simp only[push_cast,seval,-Nat.reducePow];exact⟨[],rs,rfl,rfl,rfl,rfl⟩
 .obtain⟨a,q,hb,rfl,hall,j3,j4,j9,j10,j11,e3,e4,jn⟩:=hJ;have hb2:rs.length=a.length+q.length:=by grind
  cases q with
  | nil =>
    have h1:¬((a.length:Nat):Int)<((rs.length:Nat):Int):=by grind
    have e:rs.all b=true:=by grind
    simp only[push_cast,seval,-Nat.reducePow,j3,j4,j9,j10,j11,e3,e4,h1,e];rfl
  | cons r q =>
    rw[zg]at hb2;have h1:((a.length:Nat):Int)<((rs.length:Nat):Int):=by omega
    have hg:(ints rs).getD a.length .junk=.int .i64 r:=by rw[hb];simp[ints,ze]
    have hc:=hm r (by grind);simp only[tV,tCs]at hc;simp only[push_cast,seval,-Nat.reducePow,j3,j4,j9,j10,j11,e3,e4,h1,hg,hlr,ho];refine⟨by omega,aAa hc (by simp only[V.imm,V.imms,ix,iy,iz,ig,zn]) rfl ?_⟩;cases hbr:b r with
    | false =>
      have e:rs.all b=false:=by grind
      simp only[push_cast,seval,-Nat.reducePow,j3,j4,j9,j10,j11,e3,e4,e];rfl
    | true=>simp only[push_cast,seval,-Nat.reducePow,j3,j4,j9,j10,j11,e3,e4];exact⟨⟨by omega,by omega⟩,q.length,by omega,a++[r],q,by grind,rfl,by grind,by simp,by omega⟩
theorem bQw(hf:bE8 P F T)(s:Stt)(t:Ttl)(hno:∀p,p∈s.pages->p.t≠t)(hl:s.pages.length<=2^30):PTr P (F 346) [s.v,tV t] (aE8 none):=by
 have hlp:(s.pages.map Sto.v).length=s.pages.length:=zb ..;refine ptrC [] hf (by simp) rfl ?_;simp only[c346,push_cast,seval,-Nat.reducePow,Stt.v,Stt.cs,stoV,pplV,watV,lasV,tV,tCs,hlp];refine aAd (λm s1=>∃b q,s.pages=b++q∧m=q.length∧s1.env 2=.ptr 2 0∧s1.env 3=.ptr 3 0∧s1.env 4=.ptr 4 0∧s1.env 9=.lst 3 (s.pages.map Sto.v)∧s1.env 10=.int .i64 s.pages.length∧s1.env 11=.int .i64 b.length∧s1.L 3=some (.box (T 17) [.int .i64 t.1,.str t.2])∧s1.L 4=some (.box (T 35) [.int .i64 0,.str [],.nils])∧4<s1.nx) s.pages.length ?_ λm s1 hJ=>?_
 .simp only[push_cast,seval,-Nat.reducePow];exact⟨[],s.pages,rfl,rfl,rfl⟩
 .obtain⟨b,q,hb,rfl,j2,j3,j4,j9,j10,j11,e3,e4,jn⟩:=hJ;have hb2:s.pages.length=b.length+q.length:=by grind
  cases q with
  | nil =>
    have h1:¬((b.length:Nat):Int)<((s.pages.length:Nat):Int):=by grind
    simp only[push_cast,seval,-Nat.reducePow,j2,j3,j4,j9,j10,j11,e3,e4,h1];rfl
  | cons x q =>
    rw[zg]at hb2;have h1:((b.length:Nat):Int)<((s.pages.length:Nat):Int):=by omega
    have hg:(s.pages.map Sto.v).getD b.length .junk=.agg [.int .i64 x.t.1,.str x.t.2,revV x.hist]:=by rw[hb];simp[ze,Sto.v]
    have h1v:(revV x.hist).one=true:=rfl;have hx:=hno x (by grind);have hd:(decide (x.t.1=t.1)&&decide (x.t.2=t.2))=false:=by grind
    simp only[push_cast,seval,-Nat.reducePow,j2,j3,j4,j9,j10,j11,e3,e4,h1,hg,h1v,hd];exact⟨by omega,⟨by omega,by omega⟩,q.length,by omega,b++[x],q,by grind,rfl,by simp,by omega⟩
end Go.Ab
