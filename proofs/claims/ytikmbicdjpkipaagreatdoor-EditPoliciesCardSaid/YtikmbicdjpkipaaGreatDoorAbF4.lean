import Derived.Test.YtikmbicdjpkipaaGreatDoorAbF2
import Derived.Sort.Grow
import Derived.Sort.EncStr
import Derived.Test.YtikmbicdjpkipaaGreatDoorAbG14
open Bool renaming false_and->zj
set_option linter.unusedSimpArgs false
set_option linter.unusedVariables false
namespace Go.Ab
variable {P:Program} {F T:Nat->Nat}
theorem t191(hf:bGn P F T)(s:Tx):PTr P (F 191) [.str s] (.bool (aE2 s)):=by
 refine ptrC [] hf (by simp) rfl ?_;rw[aJ6];by_cases a1:s.length<1
 .have a1':((s.length:Nat):Int)<1:=by omega
  simp only[c191,push_cast,seval,-Nat.reducePow,a1,a1',view,zj]
 have a1':¬((s.length:Nat):Int)<1:=by omega
 by_cases a2:30<s.length
 .have a2':(30:Int)<((s.length:Nat):Int):=by omega
  simp only[c191,push_cast,seval,-Nat.reducePow,a1,a1',a2,a2',view,zj]
 have a2':¬(30:Int)<((s.length:Nat):Int):=by omega
 have a0:0<s.length:=by omega
 have hall:∀(i:Nat),i<s.length->okC (s.getD i 0)=false->s.all okC=false:=λi hi h=>by
  cases e:s.all okC with
  | false=>rfl
  | true=>have:=List.all_eq_true.1 e (s.getD i 0) (by simp[List.getD,hi]);rw[h]at this;cases this
 have hall2:(∀(i:Nat),i<s.length->okC (s.getD i 0)=true)->s.all okC=true:=λh=>List.all_eq_true.2 λx hx=>by obtain⟨i,hi,rfl⟩:=List.mem_iff_getElem.1 hx;have:=h i hi;simpa[List.getD,hi]using this
 obtain⟨c0,hc0⟩:∃c,s.getD 0 0=c:=⟨_,rfl⟩;rw[hc0];by_cases a3:c0.toNat<97
 .have a3':((c0.toNat:Nat):Int)<97:=by omega
  simp only[c191,push_cast,seval,-Nat.reducePow,a1,a1',a2,a2',a0,hc0,a3,a3',view,zj]
 have a3':¬((c0.toNat:Nat):Int)<97:=by omega
 by_cases a4:122<c0.toNat
 .have a4':(122:Int)<((c0.toNat:Nat):Int):=by omega
  simp only[c191,push_cast,seval,-Nat.reducePow,a1,a1',a2,a2',a0,hc0,a3,a3',a4,a4',view,zj]
 have a4':¬(122:Int)<((c0.toNat:Nat):Int):=by omega
 simp only[c191,push_cast,seval,-Nat.reducePow,a1,a1',a2,a2',a0,hc0,a3,a3',a4,a4'];refine aAe (λm s1=>∃i,i<=s.length∧m=s.length-i∧(∀k,k<i->okC (s.getD k 0)=true)∧s1.env 0=.str s∧s1.env 24=.int .i64 s.length∧s1.env 25=.int .i64 i) s.length ⟨0,?_⟩ λm s1 hJ=>?_
 .simp only[push_cast,seval,-Nat.reducePow];exact⟨rfl,λk hk=>absurd hk (Nat.not_lt_zero _)⟩
 .obtain⟨i,hi,rfl,hn,j0,j24,j3⟩:=hJ;by_cases h:i<s.length
  .have h':((i:Nat):Int)<((s.length:Nat):Int):=by omega
   obtain⟨c,hc⟩:∃c,s.getD i 0=c:=⟨_,rfl⟩;have hok:=aNo c;have hbad:okC c=false->s.all okC=false:=λe=>hall i h (by rw[hc];exact e);have hgo:okC c=true->∀k,k<i+1->okC (s.getD k 0)=true:=λe k hk=>by
    by_cases hki:k=i
    .rw[hki,hc];exact e
    .exact hn k (by omega)
   have step:okC c=true->(True∧∃m',m'<s.length-i∧∃i_1,i_1<=s.length∧m'=s.length-i_1∧(∀k,k<i_1->okC (s.getD k 0)=true)∧((i:Int)+1)=i_1):=λe=>⟨trivial,s.length-(i+1),by omega,i+1,by omega,rfl,hgo e,by simp⟩;simp only[push_cast,seval,-Nat.reducePow,j0,j24,j3,h'];refine aAu (λs1=>s1.env 0=.str s∧s1.env 4=.int .u8 c.toNat∧s1.env 24=.int .i64 s.length∧s1.env 25=.int .i64 i) ?_ ?_
   .simp only[push_cast,seval,-Nat.reducePow,j0,j24,j3,hc];exact h
   rintro s2 ⟨i0,i4,i24,i25⟩;by_cases b1:c.toNat<97
   .have b1':((c.toNat:Nat):Int)<97:=by omega
    by_cases b3:c.toNat<48
    .have b3':((c.toNat:Nat):Int)<48:=by omega
     by_cases b5:c.toNat=45
     .have b5':((c.toNat:Nat):Int)=45:=by omega
      have e:okC c=true:=hok.2 (by omega);simp only[push_cast,seval,-Nat.reducePow,i0,i4,i24,i25,b1',b3',b5'];exact⟨⟨by omega,by omega⟩,s.length-(i+1),by omega,i+1,by omega,rfl,hgo e,by simp⟩
     .have b5':¬((c.toNat:Nat):Int)=45:=by omega
      have b6':¬((c.toNat:Nat):Int)=95:=by omega
      have e:okC c=false:=by cases q:okC c with|false=>rfl|true=>exact absurd (hok.1 q) (by omega)
      simp only[push_cast,seval,-Nat.reducePow,i0,i4,i24,i25,b1',b3',b5',b6',view,hbad e]
    .have b3':¬((c.toNat:Nat):Int)<48:=by omega
     by_cases b4:57<c.toNat
     .have b4':(57:Int)<((c.toNat:Nat):Int):=by omega
      have b5':¬((c.toNat:Nat):Int)=45:=by omega
      by_cases b6:c.toNat=95
      .have b6':((c.toNat:Nat):Int)=95:=by omega
       have e:okC c=true:=hok.2 (by omega);simp only[push_cast,seval,-Nat.reducePow,i0,i4,i24,i25,b1',b3',b4',b5',b6'];exact⟨⟨by omega,by omega⟩,s.length-(i+1),by omega,i+1,by omega,rfl,hgo e,by simp⟩
      .have b6':¬((c.toNat:Nat):Int)=95:=by omega
       have e:okC c=false:=by cases q:okC c with|false=>rfl|true=>exact absurd (hok.1 q) (by omega)
       simp only[push_cast,seval,-Nat.reducePow,i0,i4,i24,i25,b1',b3',b4',b5',b6',view,hbad e]
     .have b4':¬(57:Int)<((c.toNat:Nat):Int):=by omega
      have e:okC c=true:=hok.2 (by omega);simp only[push_cast,seval,-Nat.reducePow,i0,i4,i24,i25,b1',b3',b4'];exact⟨⟨by omega,by omega⟩,s.length-(i+1),by omega,i+1,by omega,rfl,hgo e,by simp⟩
   .have b1':¬((c.toNat:Nat):Int)<97:=by omega
    by_cases b2:122<c.toNat
    .have b2':(122:Int)<((c.toNat:Nat):Int):=by omega
     have b3':¬((c.toNat:Nat):Int)<48:=by omega
     have b4':(57:Int)<((c.toNat:Nat):Int):=by omega
     have b5':¬((c.toNat:Nat):Int)=45:=by omega
     have b6':¬((c.toNat:Nat):Int)=95:=by omega
     have e:okC c=false:=by cases q:okC c with|false=>rfl|true=>exact absurd (hok.1 q) (by omega)
     simp only[push_cast,seval,-Nat.reducePow,i0,i4,i24,i25,b1',b2',b3',b4',b5',b6',view,hbad e]
    .have b2':¬(122:Int)<((c.toNat:Nat):Int):=by omega
     have e:okC c=true:=hok.2 (by omega);simp only[push_cast,seval,-Nat.reducePow,i0,i4,i24,i25,b1',b2'];exact⟨⟨by omega,by omega⟩,s.length-(i+1),by omega,i+1,by omega,rfl,hgo e,by simp⟩
  .have h':¬((i:Nat):Int)<((s.length:Nat):Int):=by omega
   have e:=hall2 λk hk=>hn k (by omega);simp only[push_cast,seval,-Nat.reducePow,j0,j24,j3,h',e,view]
end Go.Ab
