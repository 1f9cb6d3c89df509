import Derived.Test.YtikmbicdjpkipaaGreatDoorAbJ1
import Derived.Test.YtikmbicdjpkipaaGreatDoorAbL2
set_option linter.unusedSimpArgs false
set_option linter.unusedVariables false
namespace Go.Ab
variable {P:Program} {F T:Nat->Nat}
theorem bNq(hf:bCb P F T)(s:Stt)(t:Ttl)(hno:∀p,p∈s.pages->p.t≠t)(hl:s.pages.length<=2^30):PTr P (F 346) [s.v,tV t] (aGp none):=by
 have hlp:(s.pages.map Sto.v).length=s.pages.length:=List.length_map ..;refine ptrC [] hf (by simp) rfl ?_;simp only[c346,push_cast,seval,-Nat.reducePow,Stt.v,Stt.cs,stoV,pplV,watV,lasV,tV,tCs,hlp];refine aAe (λm s1=>∃b q,s.pages=b++q∧m=q.length∧s1.env 2=.ptr 2 0∧s1.env 3=.ptr 3 0∧s1.env 4=.ptr 4 0∧s1.env 9=.lst 3 (s.pages.map Sto.v)∧s1.env 10=.int .i64 s.pages.length∧s1.env 11=.int .i64 b.length∧s1.L 3=some (.box (T 17) [.int .i64 t.1,.str t.2])∧s1.L 4=some (.box (T 35) [.int .i64 0,.str [],.nils])∧4<s1.nx) s.pages.length ?_ λm s1 hJ=>?_
 .simp only[push_cast,seval,-Nat.reducePow];exact⟨[],s.pages,rfl,rfl,rfl⟩
 .obtain⟨b,q,hb,rfl,j2,j3,j4,j9,j10,j11,e3,e4,jn⟩:=hJ;have hb2:s.pages.length=b.length+q.length:=by grind
  cases q with
  | nil =>
    have h1:¬((b.length:Nat):Int)<((s.pages.length:Nat):Int):=by grind
    simp only[push_cast,seval,-Nat.reducePow,j2,j3,j4,j9,j10,j11,e3,e4,h1];rfl
  | cons x q =>
    rw[List.length_cons]at hb2;have h1:((b.length:Nat):Int)<((s.pages.length:Nat):Int):=by omega
    have hg:(s.pages.map Sto.v).getD b.length .junk=.agg [.int .i64 x.t.1,.str x.t.2,revV x.hist]:=by rw[hb];simp[List.getD_eq_getElem?_getD,Sto.v]
    have h1v:(revV x.hist).one=true:=rfl;have hx:=hno x (by grind);have hd:(decide (x.t.1=t.1)&&decide (x.t.2=t.2))=false:=by grind
    simp only[push_cast,seval,-Nat.reducePow,j2,j3,j4,j9,j10,j11,e3,e4,h1,hg,h1v,hd];exact⟨by omega,⟨by omega,by omega⟩,q.length,by omega,b++[x],q,by grind,rfl,by simp,by omega⟩
end Go.Ab
