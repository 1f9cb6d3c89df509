/- Several texts of one kind, merged. No condition. -/
import Derived.Test.YtjakkhalapaofaaGreatDoorAbZ1
import Derived.KernelRfl
import Derived.Test.YtjakkhalapaofaaGreatDoorAbR6
import Derived.Test.YtjakkhalapaofaaGreatDoorAbR8
set_option linter.unusedSimpArgs false
set_option linter.unusedVariables false
namespace Go.Ab
end Go.Ab
namespace Go.Ab
def NoSp (s:List UInt8):Prop:=∀ b,b∈s→b≠123∧b≠125∧b≠91∧b≠93∧b≠60∧b≠62
def Tok.mid (t:Tok):Prop:=t.kind=1∨t.kind=2∨t.kind=7∨t.kind=8
theorem aXw {s:List UInt8} {t:Tok} (h:t.mid) (e:El) (he:e.kind=3) (hc:e.count=2) (r:List El):∃ e',aBr s t (e::r)=e'::r∧e'.kind=3∧e'.count=2:=by
 have add:∀ q,∃ e',addS (tx q) (e::r)=e'::r∧e'.kind=3∧e'.count=2:=fun q=>by
  refine ⟨e.add (tx q),rfl,?_,?_⟩ <;> (simp only [El.add]; split <;> assumption)
 rcases h with h | h | h | h
 ·simp only [aBr,h,Nat.reduceEqDiff,if_false]; exact add _
 ·simp only [aBr,h,Nat.reduceEqDiff,if_false]; exact add _
 ·simp only [aBr,h,Nat.reduceEqDiff,if_false,if_true,barF,he]
  exact ⟨_,rfl,rfl,hc⟩
 ·simp only [aBr,h,Nat.reduceEqDiff,if_false,if_true,eqF]
  split
  ·exact ⟨_,rfl,he,hc⟩
  ·exact add _
theorem aSt {s:List UInt8}:∀ {l:List Tok} (e:El) (r:List El),(∀ t,t∈l→t.mid)→e.kind=3→e.count=2→∃ e',runF s l (e::r)=e'::r∧e'.kind=3∧e'.count=2
 | [],e,r,_,he,hc=>⟨e,rfl,he,hc⟩
 | t::l,e,r,h,he,hc=>by
   obtain ⟨e1,h1,h2,h3⟩:=aXw (s:=s) (h t (by simp)) e he hc r
   obtain ⟨e2,h4,h5⟩:=aSt (s:=s) (l:=l) e1 r (fun x hx=>h x (by simp [hx])) h2 h3
   refine ⟨e2,?_,h5⟩
   rw [← h4,← h1]; rfl
theorem aW0 {c:UInt8} {r:List UInt8} (h:c≠123∧c≠125∧c≠91∧c≠93∧c≠60):aA0 (c::r)=(0,0)∨aA0 (c::r)=(7,1)∨aA0 (c::r)=(8,1)∨aA0 (c::r)=(2,1):=by
 obtain ⟨h1,h2,h3,h4,h5⟩:=h
 simp only [aA0,h1,h2,h3,h4,h5,if_false]
 split
 ·exact .inr (.inl rfl)
 ·split
  ·exact .inr (.inr (.inl rfl))
  ·split
   ·exact .inr (.inr (.inr rfl))
   ·exact .inl rfl
theorem aNh {T m:List UInt8} (hT:T=[123,123]++m++[125,125]) (hm:∀ b,b∈m→b≠123∧b≠125∧b≠91∧b≠93∧b≠60) :
 ∀ (n t i:Nat),2≤i→i≤m.length+2→t≤i→m.length+4<n+i→∃ l,aF8 T n t i=l++[⟨4,m.length+2,m.length+4⟩]∧∀ x,x∈l→x.mid
 | 0,t,i,h2,hi,ht,hn=>by omega
 | n+1,t,i,h2,hi,ht,hn=>by
   have hl:T.length=m.length+4:=by rw [hT]; simp
   rw [aF8,if_pos (by omega)]
   by_cases he:i=m.length+2
   ·have hd:T.drop i=[125,125]:=by
     rw [hT,he,List.append_assoc,List.drop_append,List.drop_append]
     simp
    rw [hd]
    have hf:aA0 [125,125]=(4,2):=by decide
    rw [hf]
    simp only [Nat.reduceEqDiff,if_false]
    have hz:aF8 T n (i+2) (i+2)=[]:=by
     cases n with
     | zero=>rfl
     | succ n=>rw [aF8,if_neg (by omega),if_neg (by omega)]
    rw [hz]
    refine ⟨if t<i then [⟨1,t,i⟩] else [],by rw [he],fun x hx=>?_⟩
    split at hx
    ·rw [List.mem_singleton] at hx; subst hx; exact .inl rfl
    ·simp at hx
   ·obtain ⟨c,r,hd,hc⟩:∃ c r,T.drop i=c::r∧c∈m:=by
     have hlt:i-2<m.length:=by omega
     refine ⟨m[i-2],m.drop (i-2+1)++[125,125],?_,List.getElem_mem hlt⟩
     rw [hT,List.append_assoc,List.drop_append]
     have e1:List.drop i [123,123]=([]:List UInt8):=List.drop_eq_nil_of_le (by simpa using h2)
     rw [e1,List.nil_append]
     simp only [List.length_cons,List.length_nil,Nat.zero_add,Nat.reduceAdd]
     rw [List.drop_append_of_le_length (by omega),List.drop_eq_getElem_cons hlt]
     rfl
    rw [hd]
    have hk:=aW0 (r:=r) (hm c hc)
    by_cases h0:aA0 (c::r)=(0,0)
    ·rw [h0]
     simp only [if_true]
     exact aNh hT hm n t (i+1) (by omega) (by omega) (by omega) (by omega)
    ·obtain ⟨k,hkk,hf⟩:∃ k,(k=7∨k=8∨k=2)∧aA0 (c::r)=(k,1):=by
      rcases hk with hk | hk | hk | hk
      ·exact absurd hk h0
      ·exact ⟨7,by simp,hk⟩
      ·exact ⟨8,by simp,hk⟩
      ·exact ⟨2,by simp,hk⟩
     rw [hf]
     have hk0:¬ k=0:=by omega
     simp only [hk0,if_false]
     obtain ⟨l,hl2,hlm⟩:=aNh hT hm n (i+1) (i+1) (by omega) (by omega) (by omega) (by omega)
     rw [hl2]
     refine ⟨(if t<i then [⟨1,t,i⟩] else [])++⟨k,i,i+1⟩::l,by simp,fun x hx=>?_⟩
     rw [List.mem_append,List.mem_cons] at hx
     rcases hx with hx | rfl | hx
     ·split at hx
      ·rw [List.mem_singleton] at hx; subst hx; exact .inl rfl
      ·simp at hx
     ·rcases hkk with rfl | rfl | rfl
      ·exact .inr (.inr (.inl rfl))
      ·exact .inr (.inr (.inr rfl))
      ·exact .inr (.inl rfl)
     ·exact hlm x hx
theorem aUu {x:UInt8} {m:List UInt8} (hm:∀ b,b∈x::m→b≠123∧b≠125∧b≠91∧b≠93∧b≠60):∃ ks av,aCc ([123,123]++x::m++[125,125])=[.mk 4 0 [] ks av]:=by
 obtain ⟨T,hT⟩:∃ T:List UInt8,T=[123,123]++x::m++[125,125]:=⟨_,rfl⟩
 have hl:T.length=(x::m).length+4:=by rw [hT]; simp
 have hf:aA0 T=(3,2):=by
  have hx:=(hm x (by simp)).1
  rw [hT]
  simp [aA0,runL,hx]
 obtain ⟨l,hs,hlm⟩:=aNh hT hm ((x::m).length+4) 2 2 (by omega) (by omega) (by omega) (by omega)
 have hsc:scan T=⟨3,0,2⟩::(l++[⟨4,(x::m).length+2,(x::m).length+4⟩]):=by
  rw [scan,hl,aF8,if_pos (by rw [hl]; omega),List.drop_zero,hf]
  simp only [Nat.reduceEqDiff,if_false,Nat.lt_irrefl,List.nil_append,Nat.zero_add]
  rw [hs]
 have ht1:(Tok.mk 3 0 2).text T=[123,123]:=by rw [hT]; simp [Tok.text]
 have ht2:(Tok.mk 4 ((x::m).length+2) ((x::m).length+4)).text T=[125,125]:=by
  rw [hT]
  simp only [Tok.text]
  rw [List.take_of_length_le (by simp),List.append_assoc,List.drop_append,List.drop_append]
  simp
 rw [← hT,aCc,hsc]
 have e1:aBr T ⟨3,0,2⟩ [root]=[⟨3,0,2,[],[]⟩,root]:=by
  simp only [aBr,Nat.reduceEqDiff,if_false,if_true,ht1]
  rfl
 obtain ⟨e',h1,h2,h3⟩:=aSt (s:=T) (l:=l) ⟨3,0,2,[],[]⟩ [root] hlm rfl rfl
 have e2:runF T (⟨3,0,2⟩::(l++[⟨4,(x::m).length+2,(x::m).length+4⟩])) [root]=aBr T ⟨4,(x::m).length+2,(x::m).length+4⟩ [e',root]:=by
  have:runF T (⟨3,0,2⟩::(l++[⟨4,(x::m).length+2,(x::m).length+4⟩])) [root]=runF T (l++[⟨4,(x::m).length+2,(x::m).length+4⟩]) (aBr T ⟨3,0,2⟩ [root]):=rfl
  rw [this,e1,runF,List.foldl_append]
  rw [runF] at h1
  rw [h1]; rfl
 rw [e2]
 have e3:aBr T ⟨4,(x::m).length+2,(x::m).length+4⟩ [e',root]=aB9 2 2 [e',root]:=by
  simp only [aBr,Nat.reduceEqDiff,if_false,if_true,ht2]
  rfl
 rw [e3]
 obtain ⟨k,tg,c,ls,av⟩:=e'
 simp only at h2 h3
 subst h2 h3
 exact ⟨ls,av,rfl⟩
theorem hid2 {s:List UInt8} (h:NoSp s):aCm ([123,123,120,124,10]++s++[10,125,125])=[]:=by
 have e:[123,123,120,124,10]++s++[10,125,125]=[123,123]++120::([124,10]++s++[10])++[125,125]:=by simp
 obtain ⟨ks,av,hq⟩:=aUu (x:=120) (m:=[124,10]++s++[10]) (by
  intro b hb
  simp only [List.mem_cons,List.mem_append,List.not_mem_nil,or_false] at hb
  rcases hb with rfl | ((rfl | rfl) | hb) | rfl
  ·decide
  ·decide
  ·decide
  ·exact ⟨(h b hb).1,(h b hb).2.1,(h b hb).2.2.1,(h b hb).2.2.2.1,(h b hb).2.2.2.2.1⟩
  ·decide)
 rw [e]
 exact aYi hq (by simp [Node.kind])
end Go.Ab
namespace Go.Ab
variable {P:Program} {F T:Nat→Nat}
open Go.Lib
structure QSec where
 a:Int
 t:List UInt8
 b:Int
 c:Int
 d:Int
def QSec.v (q:QSec):V:=.agg [.int .i64 q.a,.str q.t,.int .i64 q.b,.int .i64 q.c,.int .i64 q.d]
def quV (l:List QSec):List V:=l.map QSec.v
theorem aXp (l:List QSec):(quV l).length=l.length:=by simp [quV]
theorem aZ4:∀ l:List QSec,V.imms (quV l)=true
 | []=>rfl
 | x::r=>by simp [quV,V.imms,V.imm,QSec.v]; exact aZ4 r
theorem bI9 (d:List QSec) (x:QSec) (r:List QSec):(quV (d++x::r)).getD d.length .junk=x.v:=by simp [quV,List.getD]
def aFb (n:List UInt8):List QSec→Nat→Int×Bool
 | [],_=>(0,false)
 | q::r,i=>if q.t=n then (i,true) else aFb n r (i+1)
theorem t128 (hf:bGq P F T) (S:StrC0 P F) (l:List QSec) (s:List UInt8) (hl:l.length≤100000) :
 PTr P (F 128) [.lst 5 (quV l),.str s] (.tup [.int .i64 (aFb (trimS s wsp) l 0).1,.bool (aFb (trimS s wsp) l 0).2]):=by
 refine bCz 1 s rfl fun hs=>?_
 refine ptrC [] hf (by simp [aZ4]) rfl ?_
 simp only [c128,push_cast,seval,-Nat.reducePow]
 refine aAc (S.trim s (by omega)) (by simp only [push_cast,seval,-Nat.reducePow]) (by simp only [push_cast,seval,-Nat.reducePow]) ?_
 generalize trimS s wsp=n
 simp only [push_cast,seval,-Nat.reducePow]
 refine aAk (fun m s1=>∃ d r,l=d++r∧m=r.length∧aFb n l 0=aFb n r d.length∧s1.env 1=.str n∧s1.env 10=.lst 5 (quV l)∧s1.env 11=.int .i64 l.length∧s1.env 12=.int .i64 d.length) l.length ⟨[],l,?_⟩ fun m s1 hJ=>?_
 ·simp only [push_cast,seval,-Nat.reducePow,aXp]
 ·obtain ⟨d,r,rfl,rfl,hfi,j1,j10,j11,j12⟩:=hJ
  have hql:=aXp (d++r)
  rw [hfi]
  rw [List.length_append] at hql hl
  cases r with
  | nil =>
    have h:¬ ((d.length:Nat):Int)<(((d++[]).length:Nat):Int):=by simp
    simp only [push_cast,seval,-Nat.reducePow,j1,j10,j11,j12,h,aFb,view]
  | cons x r =>
    have h:((d.length:Nat):Int)<(((d++x::r).length:Nat):Int):=by simp; omega
    have hx:=bI9 d x r
    simp only [List.length_cons] at hql hl
    obtain ⟨a,t,b,c,e⟩:=x
    simp only [QSec.v] at hx
    by_cases hn:t=n
    ·subst hn
     simp only [push_cast,seval,-Nat.reducePow,j1,j10,j11,j12,h,hx,aFb,view,if_true]
     omega
    ·simp only [push_cast,seval,-Nat.reducePow,j1,j10,j11,j12,h,hx,hn,aFb,view]
     refine ⟨by omega,by omega,r.length,by omega,d++[⟨a,t,b,c,e⟩],r,by simp,rfl,?_,by simp⟩
     simp [aFb]
end Go.Ab
