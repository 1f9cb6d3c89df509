import Derived.Test.YtikmbicdjpkipaaGreatDoorAbC4
import Derived.Sort.Walk0
import Derived.Test.YtikmbicdjpkipaaGreatDoorAbG13
open Bool renaming not_true->zJ,not_false->zQ,false_and->zj
set_option linter.unusedSimpArgs false
set_option linter.unusedVariables false
namespace Go.Ab
abbrev Tx:=List UInt8
def okC(c:UInt8):Bool:=(decide (97<=c.toNat)&&decide (c.toNat<=122))||(decide (48<=c.toNat)&&decide (c.toNat<=57))||decide (c.toNat=45)||decide (c.toNat=95)
def aE2(s:Tx):Bool:=decide (1<=s.length)&&decide (s.length<=30)&&decide (97<=(s.getD 0 0).toNat)&&decide ((s.getD 0 0).toNat<=122)&&s.all okC
def aT:Tx:=[97,108,108]
def uT:Tx:=[117,115,101,114,115]
variable {P:Program} {F T:Nat->Nat}
open Go.Lib
theorem aNo(c:UInt8):okC c=true↔(¬c.toNat<97∧¬122<c.toNat)∨(¬c.toNat<48∧¬57<c.toNat)∨c.toNat=45∨c.toNat=95:=by
 unfold okC;simp only[Bool.or_eq_true,Bool.and_eq_true,decide_eq_true_eq];omega
theorem aJ6(s:Tx):aE2 s=(!decide (s.length<1)&&!decide (30<s.length)&&!decide ((s.getD 0 0).toNat<97)&&!decide (122<(s.getD 0 0).toNat)&&s.all okC):=by
 have e1:decide (1<=s.length)=!decide (s.length<1):=by by_cases h:s.length<1<;>simp[h]<;>omega
 have e2:decide (s.length<=30)=!decide (30<s.length):=by by_cases h:30<s.length<;>simp[h]<;>omega
 have e3:decide (97<=(s.getD 0 0).toNat)=!decide ((s.getD 0 0).toNat<97):=by by_cases h:(s.getD 0 0).toNat<97<;>simp only[h,decide_true,decide_false,zJ,zQ,decide_eq_true_eq,decide_eq_false_iff_not]<;>omega
 have e4:decide ((s.getD 0 0).toNat<=122)=!decide (122<(s.getD 0 0).toNat):=by by_cases h:122<(s.getD 0 0).toNat<;>simp only[h,decide_true,decide_false,zJ,zQ,decide_eq_true_eq,decide_eq_false_iff_not]<;>omega
 unfold aE2;rw[e1,e2,e3,e4]
theorem t217(hf:bAa P F T)(s:Tx):PTr P (F 217) [.str s] (.bool (aE2 s)):=by
 refine ptrC [] hf (by simp) rfl ?_;rw[aJ6];by_cases a1:s.length<1
 .have a1':((s.length:Nat):Int)<1:=by omega
  simp only[c217,push_cast,seval,-Nat.reducePow,a1,a1',view,zj]
 have a1':¬((s.length:Nat):Int)<1:=by omega
 by_cases a2:30<s.length
 .have a2':(30:Int)<((s.length:Nat):Int):=by omega
  simp only[c217,push_cast,seval,-Nat.reducePow,a1,a1',a2,a2',view,zj]
 have a2':¬(30:Int)<((s.length:Nat):Int):=by omega
 have a0:0<s.length:=by omega
 have hall:∀(i:Nat),i<s.length->okC (s.getD i 0)=false->s.all okC=false:=λi hi h=>by
  cases e:s.all okC with
  | false=>rfl
  | true=>have:=List.all_eq_true.1 e (s.getD i 0) (by simp[List.getD,hi]);rw[h]at this;cases this
 have hall2:(∀(i:Nat),i<s.length->okC (s.getD i 0)=true)->s.all okC=true:=λh=>List.all_eq_true.2 λx hx=>by obtain⟨i,hi,rfl⟩:=List.mem_iff_getElem.1 hx;have:=h i hi;simpa[List.getD,hi]using this
 obtain⟨c0,hc0⟩:∃c,s.getD 0 0=c:=⟨_,rfl⟩;rw[hc0];by_cases a3:c0.toNat<97
 .have a3':((c0.toNat:Nat):Int)<97:=by omega
  simp only[c217,push_cast,seval,-Nat.reducePow,a1,a1',a2,a2',a0,hc0,a3,a3',view,zj]
 have a3':¬((c0.toNat:Nat):Int)<97:=by omega
 by_cases a4:122<c0.toNat
 .have a4':(122:Int)<((c0.toNat:Nat):Int):=by omega
  simp only[c217,push_cast,seval,-Nat.reducePow,a1,a1',a2,a2',a0,hc0,a3,a3',a4,a4',view,zj]
 have a4':¬(122:Int)<((c0.toNat:Nat):Int):=by omega
 simp only[c217,push_cast,seval,-Nat.reducePow,a1,a1',a2,a2',a0,hc0,a3,a3',a4,a4'];refine aAe (λm s1=>∃i,i<=s.length∧m=s.length-i∧(∀k,k<i->okC (s.getD k 0)=true)∧s1.env 0=.str s∧s1.env 3=.int .i64 i) s.length ⟨0,?_⟩ λm s1 hJ=>?_
 .simp only[push_cast,seval,-Nat.reducePow];exact⟨rfl,λk hk=>absurd hk (Nat.not_lt_zero _)⟩
 .obtain⟨i,hi,rfl,hn,j0,j3⟩:=hJ;by_cases h:i<s.length
  .have h':((i:Nat):Int)<((s.length:Nat):Int):=by omega
   obtain⟨c,hc⟩:∃c,s.getD i 0=c:=⟨_,rfl⟩;have hok:=aNo c;have hbad:okC c=false->s.all okC=false:=λe=>hall i h (by rw[hc];exact e);have hgo:okC c=true->∀k,k<i+1->okC (s.getD k 0)=true:=λe k hk=>by
    by_cases hki:k=i
    .rw[hki,hc];exact e
    .exact hn k (by omega)
   have step:okC c=true->(True∧∃m',m'<s.length-i∧∃i_1,i_1<=s.length∧m'=s.length-i_1∧(∀k,k<i_1->okC (s.getD k 0)=true)∧((i:Int)+1)=i_1):=λe=>⟨trivial,s.length-(i+1),by omega,i+1,by omega,rfl,hgo e,by simp⟩;by_cases b1:c.toNat<97
   .have b1':((c.toNat:Nat):Int)<97:=by omega
    by_cases b3:c.toNat<48
    .have b3':((c.toNat:Nat):Int)<48:=by omega
     by_cases b5:c.toNat=45
     .have b5':((c.toNat:Nat):Int)=45:=by omega
      have e:okC c=true:=hok.2 (by omega);simp only[push_cast,seval,-Nat.reducePow,j0,j3,h',hc,b1',b3',b5'];exact⟨h,⟨by omega,by omega⟩,s.length-(i+1),by omega,i+1,by omega,rfl,hgo e,by simp⟩
     .have b5':¬((c.toNat:Nat):Int)=45:=by omega
      have b6':¬((c.toNat:Nat):Int)=95:=by omega
      have e:okC c=false:=by cases q:okC c with|false=>rfl|true=>exact absurd (hok.1 q) (by omega)
      simp only[push_cast,seval,-Nat.reducePow,j0,j3,h',hc,b1',b3',b5',b6',view,hbad e];exact h
    .have b3':¬((c.toNat:Nat):Int)<48:=by omega
     by_cases b4:57<c.toNat
     .have b4':(57:Int)<((c.toNat:Nat):Int):=by omega
      have b5':¬((c.toNat:Nat):Int)=45:=by omega
      by_cases b6:c.toNat=95
      .have b6':((c.toNat:Nat):Int)=95:=by omega
       have e:okC c=true:=hok.2 (by omega);simp only[push_cast,seval,-Nat.reducePow,j0,j3,h',hc,b1',b3',b4',b5',b6'];exact⟨h,⟨by omega,by omega⟩,s.length-(i+1),by omega,i+1,by omega,rfl,hgo e,by simp⟩
      .have b6':¬((c.toNat:Nat):Int)=95:=by omega
       have e:okC c=false:=by cases q:okC c with|false=>rfl|true=>exact absurd (hok.1 q) (by omega)
       simp only[push_cast,seval,-Nat.reducePow,j0,j3,h',hc,b1',b3',b4',b5',b6',view,hbad e];exact h
     .have b4':¬(57:Int)<((c.toNat:Nat):Int):=by omega
      have e:okC c=true:=hok.2 (by omega);simp only[push_cast,seval,-Nat.reducePow,j0,j3,h',hc,b1',b3',b4'];exact⟨h,⟨by omega,by omega⟩,s.length-(i+1),by omega,i+1,by omega,rfl,hgo e,by simp⟩
   .have b1':¬((c.toNat:Nat):Int)<97:=by omega
    by_cases b2:122<c.toNat
    .have b2':(122:Int)<((c.toNat:Nat):Int):=by omega
     have b3':¬((c.toNat:Nat):Int)<48:=by omega
     have b4':(57:Int)<((c.toNat:Nat):Int):=by omega
     have b5':¬((c.toNat:Nat):Int)=45:=by omega
     have b6':¬((c.toNat:Nat):Int)=95:=by omega
     have e:okC c=false:=by cases q:okC c with|false=>rfl|true=>exact absurd (hok.1 q) (by omega)
     simp only[push_cast,seval,-Nat.reducePow,j0,j3,h',hc,b1',b2',b3',b4',b5',b6',view,hbad e];exact h
    .have b2':¬(122:Int)<((c.toNat:Nat):Int):=by omega
     have e:okC c=true:=hok.2 (by omega);simp only[push_cast,seval,-Nat.reducePow,j0,j3,h',hc,b1',b2'];exact⟨h,⟨by omega,by omega⟩,s.length-(i+1),by omega,i+1,by omega,rfl,hgo e,by simp⟩
  .have h':¬((i:Nat):Int)<((s.length:Nat):Int):=by omega
   have e:=hall2 λk hk=>hn k (by omega);simp only[push_cast,seval,-Nat.reducePow,j0,j3,h',e,view]
end Go.Ab
