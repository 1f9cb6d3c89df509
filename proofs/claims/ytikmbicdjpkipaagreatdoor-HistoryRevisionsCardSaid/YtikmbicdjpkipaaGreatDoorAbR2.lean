import Derived.Test.YtikmbicdjpkipaaGreatDoorAbP1
import Derived.Test.YtikmbicdjpkipaaGreatDoorAbK1
import Derived.Test.YtikmbicdjpkipaaGreatDoorAbK4
import Derived.KernelRfl
set_option linter.unusedSimpArgs false
set_option linter.unusedVariables false
namespace Go.Ab
variable {P:Program} {F T:Nat->Nat}
theorem aHc{t:List UInt8}(ht:t≠[]):∀(s:List UInt8) (i:Nat),s.length<t.length->idxF t s i=none
 | [],i,_=>by simp[idxF,ht]
 | x::r,i,h=>by
   have h1:t.isPrefixOf (x::r)=false:=by rw[aFc];simp at h ⊢;omega
   have h2:r.length<t.length:=by simp at h;omega
   simp only[idxF,h1,Bool.false_eq_true,if_false];exact aHc ht r (i+1) h2
theorem t102(hf:aOs P F T)(s t:List UInt8)(i:Nat)(hs:s.length<=8192)(hi:i<=9000)(ht:t≠[])(hl:t.length<=16):PTr P (F 102) [.str s,.str t,.int .i64 i] (.int .i64 (match idxF t (s.drop i) i with|some k=>(k:Nat)|none=>-1)):=by
 refine ptrC [] hf (by simp) rfl ?_;have hp:=List.length_pos_iff.2 ht;simp only[c102,push_cast,seval,-Nat.reducePow];refine aAd (λm s1=>∃j,j<=9000+8192∧m=s.length-j∧s1.env 0=.str s∧s1.env 1=.str t∧s1.env 7=.int .i64 j∧idxF t (s.drop i) i=idxF t (s.drop j) j) (s.length-i) ⟨i,?_⟩ λm s1 hJ=>?_
 .simp only[push_cast,seval,-Nat.reducePow];omega
 .obtain⟨j,hj,rfl,j0,j1,j7,hr⟩:=hJ;rw[hr];by_cases h:j+t.length<=s.length
  .have h':((j:Nat):Int)+(t.length:Nat)<=((s.length:Nat):Int):=by omega
   simp only[push_cast,seval,-Nat.reducePow,j0,j1,j7,h'];have e0:((j:Int)+(t.length:Int)).toNat=j+t.length:=by omega
   simp only[e0];have ed:s.drop j=s[j]::s.drop (j+1):=List.drop_eq_getElem_cons (by omega);have ep:t.isPrefixOf (s.drop j)=decide ((s.take (j+t.length)).drop j=t):=by
    rw[aFc,List.length_drop];have:t.length<=s.length-j:=by omega
    rw[List.drop_take];simp[this]
   refine⟨⟨by omega,by omega⟩,⟨by omega,by omega⟩,by omega,by omega,h,?_⟩;refine aAy (λhc=>?_) (λhc=>?_)
   .simp only[push_cast,seval,-Nat.reducePow,j0,j1,j7,view];have hb:t.isPrefixOf (s.drop j)=true:=by rw[ep];simpa using hc
    rw[ed]at hb ⊢;simp only[idxF,hb,if_true]
   .simp only[push_cast,seval,-Nat.reducePow,j0,j1,j7];have hb:t.isPrefixOf (s.drop j)=false:=by rw[ep];simpa using hc
    refine⟨by omega,s.length-(j+1),by omega,j+1,by omega,rfl,by simp,?_⟩;rw[hr,ed]at *;simp only[idxF,hb,Bool.false_eq_true,if_false]
  .have h':¬((j:Nat):Int)+(t.length:Nat)<=((s.length:Nat):Int):=by omega
   simp only[push_cast,seval,-Nat.reducePow,j0,j1,j7,h',view];rw[aHc ht _ _ (by simp;omega)];exact⟨⟨by omega,by omega⟩,rfl⟩
theorem PTr.res{f:Nat}{args:List V}{r r':V}(h:PTr P f args r)(hl:r.le r'):PTr P f args r':=by
 intro D w vs hD hg hn hr;refine(h D w vs hD hg hn hr).mono ?_;rintro e w' ⟨v,h1,h2,h3⟩;exact⟨v,h1,h2,h3.le hl⟩
end Go.Ab
