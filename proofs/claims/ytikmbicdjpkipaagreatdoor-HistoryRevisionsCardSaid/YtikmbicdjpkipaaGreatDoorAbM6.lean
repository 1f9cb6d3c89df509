import Derived.Test.YtikmbicdjpkipaaGreatDoorAbZ1
import Derived.Test.YtikmbicdjpkipaaGreatDoorAbK1
import Derived.Test.YtikmbicdjpkipaaGreatDoorAbE4
import Derived.KernelRfl
import Derived.Test.YtikmbicdjpkipaaGreatDoorAbK4
import Derived.Lib.IndexMore
import Derived.Lib.SplitLaws
import Derived.Lib.CountLaws
import Derived.Lib.Split
import Derived.Lib.Join
import Derived.Lib.IndexBytes
import Derived.Test.YtikmbicdjpkipaaGreatDoorAbP1
import Derived.Deep.Draws
set_option linter.unusedSimpArgs false
set_option linter.unusedVariables false
namespace Go.Ab
variable {P:Program} {F T:Nat->Nat}
open Go.Lib
def lnF:List UInt8->List (List UInt8)
 | []=>[[]]
 | x::r=>if x=10 then[]::lnF r else(x::(lnF r).headD [])::(lnF r).tail
theorem aSw(s:List UInt8):∃p q,lnF s=p::q:=by
 cases s with
 | nil=>exact⟨[],[],rfl⟩
 | cons x r=>rw[lnF];split<;>exact⟨_,_,rfl⟩
theorem aZq:∀{s:List UInt8},(∀b,b∈s->b≠10)->lnF s=[s]
 | [],_=>rfl
 | x::r,h=>by have ih:=aZq (s:=r) (λb hb=>h b (by grind));have hx:=h x (by simp);simp[lnF,hx,ih]
theorem aZc:∀{u v:List UInt8},(∀b,b∈u->b≠10)->lnF (u++10::v)=u::lnF v
 | [],v,_=>by rfl
 | x::r,v,h=>by have ih:=aZc (u:=r) (v:=v) (λb hb=>h b (by grind));have hx:=h x (by simp);simp[lnF,hx,ih]
theorem bAc:∀s:List UInt8,((lnF s).map List.length).sum<=s.length
 | []=>by simp[lnF]
 | x::r=>by obtain⟨p,t,e⟩:=aSw r;have ih:=bAc r;rw[lnF];grind
theorem aPn(c:UInt8):∀s:List UInt8,indexByte s c=match s.findIdx? (·==c)with|none=>-1|some i=>(i:Int)
 | []=>rfl
 | x::r=>by
   have ih:=aPn c r;by_cases hx:x=c
   .subst hx;simp[indexByte,List.findIdx?_cons]
   .have hx':(x==c)=false:=by grind
    simp only[indexByte,hx',List.findIdx?_cons,Bool.false_eq_true,if_false];grind
theorem aQ8{c:UInt8}{s:List UInt8}{i:Nat}(h:s.findIdx? (·==c)=some i):s=s.take i++c::s.drop (i+1)∧(∀b,b∈s.take i->b≠c)∧i<s.length:=by
 rw[List.findIdx?_eq_some_iff_getElem]at h;obtain⟨hi,h1,h2⟩:=h;have hc:s[i]=c:=by grind
 refine⟨?_,λb hb=>?_,hi⟩
 .conv=>lhs;rw[<-List.take_append_drop i s,List.drop_eq_getElem_cons hi,hc]
 .obtain⟨j,hj,rfl⟩:=List.mem_iff_getElem.1 hb;grind
theorem aUw{c:UInt8}{s:List UInt8}(h:s.findIdx? (·==c)=none):∀b,b∈s->b≠c:=by
 grind
theorem aTw:∀(n:Nat) (s:List UInt8),s.length<=n->split s [10]=lnF s:=by
 intro n;induction n with
 | zero=>intro s hs;have:s=[]:=List.length_eq_zero_iff.1 (by omega);subst this;rfl
 | succ n ih =>
   intro s hs;have hix:index s [10]=indexByte s 10:=index_one s 10;rw[aPn]at hix;cases hf:s.findIdx? (·==10)with
   | none=>rw[hf]at hix;rw[split,count_miss hix,splitK,aZq (aUw hf)]
   | some i =>
     rw[hf]at hix;simp only at hix;obtain⟨h1,h2,h3⟩:=aQ8 hf;have hm:¬(index s [10]==-1)=true:=λe=>by grind
     have ht:(index s [10]).toNat=i:=by omega
     have ih':=ih (s.drop (i+1)) (by grind);rw[split,count_hit (by simp) hix,Nat.add_comm,splitK,if_neg hm,ht,Nat.add_zero];rw[split]at ih';simp only[List.length_singleton];rw[ih']
     conv=>rhs;rw[h1,aZc h2]
open Go.RowKit
theorem aT8:∀{l:List (List UInt8)} {q:List UInt8},q∈l->q.length<=(l.map List.length).sum
 | y::r,q,h=>by
   rcases List.mem_cons.1 h with rfl|h
   .simp
   .have:=aT8 h;grind
end Go.Ab
