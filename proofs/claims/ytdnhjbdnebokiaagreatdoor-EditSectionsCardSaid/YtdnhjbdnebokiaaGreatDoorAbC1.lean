/- Several texts of one kind, merged. No condition. -/
import Derived.Test.YtdnhjbdnebokiaaGreatDoorAbE4
import Derived.Lib.IndexMore
import Derived.Lib.SplitLaws
import Derived.Lib.CountLaws
import Derived.Test.YtdnhjbdnebokiaaGreatDoorAbZ1
import Derived.Lib.Split
import Derived.Lib.IndexBytes
import Derived.Test.YtdnhjbdnebokiaaGreatDoorAbP4
import Derived.Deep.Draws
set_option linter.unusedSimpArgs false
set_option linter.unusedVariables false
namespace Go.Ab
def aCj:List UInt8→List (List UInt8)
 | []=>[[]]
 | x::r=>if x=47 then []::aCj r else (x::(aCj r).headD [])::(aCj r).tail
theorem aW0:∀ s:List UInt8,aCj s≠[]
 | []=>by simp [aCj]
 | x::r=>by simp only [aCj]; split <;> simp
theorem aRc (s:List UInt8):∃ p q,aCj s=p::q:=by
 cases h:aCj s with
 | nil=>exact absurd h (aW0 s)
 | cons p q=>exact ⟨p,q,rfl⟩
theorem aNq:∀ {s:List UInt8},(∀ b,b∈s→b≠47)→aCj s=[s]
 | [],_=>rfl
 | x::r,h=>by
   have ih:=aNq (s:=r) (fun b hb=>h b (by simp [hb]))
   have hx:=h x (by simp)
   simp [aCj,hx,ih]
theorem aNp:∀ {u v:List UInt8},(∀ b,b∈u→b≠47)→aCj (u++47::v)=u::aCj v
 | [],v,_=>by simp [aCj]
 | x::r,v,h=>by
   have ih:=aNp (u:=r) (v:=v) (fun b hb=>h b (by simp [hb]))
   have hx:=h x (by simp)
   simp [aCj,hx,ih]
end Go.Ab
namespace Go.Ab
variable {P:Program} {F T:Nat→Nat}
open Go.Lib
theorem aMz (c:UInt8):∀ s:List UInt8,indexByte s c=match s.findIdx? (·==c) with | none=>-1 | some i=>(i:Int)
 | []=>rfl
 | x::r=>by
   have ih:=aMz c r
   by_cases hx:x=c
   ·subst hx; simp [indexByte,List.findIdx?_cons]
   ·have hx':(x==c)=false:=by simpa using hx
    simp only [indexByte,hx',List.findIdx?_cons,Bool.false_eq_true,if_false]
    rw [ih]
    cases h:r.findIdx? (·==c) with
    | none=>rfl
    | some i =>
      have:(((i:Nat):Int)==-1)=false:=by rw [beq_eq_false_iff_ne]; omega
      simp [this]
theorem aVy {c:UInt8} {s:List UInt8} {i:Nat} (h:s.findIdx? (·==c)=some i):s=s.take i++c::s.drop (i+1)∧(∀ b,b∈s.take i→b≠c)∧i<s.length:=by
 rw [List.findIdx?_eq_some_iff_getElem] at h
 obtain ⟨hi,h1,h2⟩:=h
 have hc:s[i]=c:=by simpa using h1
 refine ⟨?_,fun b hb=>?_,hi⟩
 ·conv=>lhs; rw [← List.take_append_drop i s,List.drop_eq_getElem_cons hi,hc]
 ·obtain ⟨j,hj,rfl⟩:=List.mem_iff_getElem.1 hb
  rw [List.length_take] at hj
  rw [List.getElem_take]
  have:=h2 j (by omega)
  simpa using this
theorem aV7 {c:UInt8} {s:List UInt8} (h:s.findIdx? (·==c)=none):∀ b,b∈s→b≠c:=by
 intro b hb
 rw [List.findIdx?_eq_none_iff] at h
 have:=h b hb
 simpa using this
theorem aRk:∀ (n:Nat) (s:List UInt8),s.length≤n→split s [47]=aCj s:=by
 intro n
 induction n with
 | zero =>
   intro s hs
   have:s=[]:=List.length_eq_zero_iff.1 (by omega)
   subst this; rfl
 | succ n ih =>
   intro s hs
   have hix:index s [47]=indexByte s 47:=index_one s 47
   rw [aMz] at hix
   cases hf:s.findIdx? (·==47) with
   | none =>
     rw [hf] at hix
     rw [split,count_miss hix,splitK,aNq (aV7 hf)]
   | some i =>
     rw [hf] at hix
     simp only at hix
     obtain ⟨h1,h2,h3⟩:=aVy hf
     have hm:¬ (index s [47]==-1)=true:=fun e=>by have:=beq_iff_eq.1 e; omega
     have ht:(index s [47]).toNat=i:=by omega
     have ih':=ih (s.drop (i+1)) (by rw [List.length_drop]; omega)
     rw [split,count_hit (by simp) hix,Nat.add_comm,splitK,if_neg hm,ht,Nat.add_zero]
     rw [split] at ih'
     simp only [List.length_singleton]
     rw [ih']
     conv=>rhs; rw [h1,aNp h2]
end Go.Ab
namespace Go.Ab
variable {P:Program} {F T:Nat→Nat}
open Go.Lib
theorem bGb {D:Nat→Prop} {w:World} (hD:∀ b,D b→b<w.heap.size) (l:List (List UInt8)) (n ty:Nat) (hn:n=l.length) (hl:∀ q,q∈l→q.length<2^63) (hn2:n<2^63) :
 Rep (fun _=>none) D (w.alloc (.cells ((l.map fun q=>Value.string ⟨q.toArray⟩).toArray) ty)) (.lst 1 (l.map .str)) (.slice (some ⟨w.heap.size,0,none⟩) n n):=by
 have hc:∀ (i j:Nat) (c:V),(((l.map V.str)[i]?).bind fun e=>e.cells[j]?)=some c→∃ q,l[i]?=some q∧j=0∧c=.str q:=by
  intro i j c h
  cases hq:l[i]? with
  | none=>simp [hq] at h
  | some q =>
    simp only [List.getElem?_map,hq,Option.map_some,Option.bind_some,V.cells] at h
    match j,h with
    | 0,h=>simp at h; exact ⟨q,rfl,rfl,h.symm⟩
 have hcell:∀ (i:Nat) (q:List UInt8),l[i]?=some q→(w.alloc (.cells ((l.map fun q=>Value.string ⟨q.toArray⟩).toArray) ty)).cell? ⟨w.heap.size,i,none⟩=some (.string ⟨q.toArray⟩):=by
  intro i q h
  have hi:=(List.getElem?_eq_some_iff.1 h).1
  have hv:=(List.getElem?_eq_some_iff.1 h).2
  unfold World.cell?
  rw [aAt]
  simp [hi,hv]
 have hlen:n=(l.map V.str).length:=by simp [hn]
 rw [hlen]
 refine .lst 1 _ _ _ w.heap.size 0 (Nat.le_refl _) (by omega) (fun _=>⟨rfl,by rw [aBs]; omega,fun h=>by have:=hD _ h; omega⟩) (fun e he=>?_) (fun i j c h=>?_) (fun i j c h=>?_)
 ·obtain ⟨q,_,rfl⟩:=List.mem_map.1 he; rfl
 ·obtain ⟨q,h1,rfl,rfl⟩:=hc i j c h
  rw [show 0+i*1+0=i by omega,hcell i q h1]; rfl
 ·obtain ⟨q,h1,rfl,rfl⟩:=hc i j c h
  rw [show 0+i*1+0=i by omega,aC4,hcell i q h1]
  exact .str _ (hl q (List.mem_of_getElem? h1))
theorem aYu {s:List UInt8}:∀ q,q∈aCj s→q.length≤s.length:=by
 induction s with
 | nil=>intro q hq; simp [aCj] at hq; simp [hq]
 | cons x r ih =>
   intro q hq
   obtain ⟨p,u,hp⟩:=aRc r
   simp only [aCj,hp] at hq ih
   split at hq
   ·simp only [List.mem_cons] at hq
    rcases hq with rfl | hq
    ·simp
    ·have:=ih q (by simpa using hq)
     simp; omega
   ·simp only [List.headD_cons,List.tail_cons,List.mem_cons] at hq
    rcases hq with rfl | hq
    ·have:=ih p (by simp)
     simp; omega
    ·have:=ih q (by simp [hq])
     simp; omega
end Go.Ab
