/- Several texts of one kind, merged. No condition. -/
import Derived.Test.YtgdllpgidgiccaaGreatDoorAbR1
import Derived.Test.YtgdllpgidgiccaaGreatDoorAbR0
set_option linter.unusedSimpArgs false
set_option linter.unusedVariables false
namespace Go.Ab
variable {P:Program} {F T:Nat→Nat}
theorem aJe {t:List UInt8} (ht:t≠[]):∀ (s:List UInt8) (i:Nat),s.length<t.length→idxF t s i=none
 | [],i,_=>by simp [idxF,ht]
 | x::r,i,h=>by
   have h1:t.isPrefixOf (x::r)=false:=by
    rw [aDz]; simp at h ⊢; omega
   have h2:r.length<t.length:=by simp at h; omega
   simp only [idxF,h1,Bool.false_eq_true,if_false]
   exact aJe ht r (i+1) h2
theorem t102 (hf:bBj P F T) (s t:List UInt8) (i:Nat) (hs:s.length≤8192) (hi:i≤9000) (ht:t≠[]) (hl:t.length≤16):PTr P (F 102) [.str s,.str t,.int .i64 i] (.int .i64 (match idxF t (s.drop i) i with | some k=>(k:Nat) | none=>-1)):=by
 refine ptrC [] hf (by simp) rfl ?_
 have hp:=List.length_pos_iff.2 ht
 simp only [c102,push_cast,seval,-Nat.reducePow]
 refine aAe (fun m s1=>∃ j,j≤9000+8192∧m=s.length-j∧s1.env 0=.str s∧s1.env 1=.str t∧s1.env 7=.int .i64 j∧idxF t (s.drop i) i=idxF t (s.drop j) j) (s.length-i) ⟨i,?_⟩ fun m s1 hJ=>?_
 ·simp only [push_cast,seval,-Nat.reducePow]
  omega
 ·obtain ⟨j,hj,rfl,j0,j1,j7,hr⟩:=hJ
  rw [hr]
  by_cases h:j+t.length≤s.length
  ·have h':((j:Nat):Int)+(t.length:Nat)≤((s.length:Nat):Int):=by omega
   simp only [push_cast,seval,-Nat.reducePow,j0,j1,j7,h']
   have e0:((j:Int)+(t.length:Int)).toNat=j+t.length:=by omega
   simp only [e0]
   have ed:s.drop j=s[j]::s.drop (j+1):=List.drop_eq_getElem_cons (by omega)
   have ep:t.isPrefixOf (s.drop j)=decide ((s.take (j+t.length)).drop j=t):=by
    rw [aDz,List.length_drop]
    have:t.length≤s.length-j:=by omega
    rw [List.drop_take]
    simp [this]
   refine ⟨⟨by omega,by omega⟩,⟨by omega,by omega⟩,by omega,by omega,h,?_⟩
   refine aAh (fun hc=>?_) (fun hc=>?_)
   ·simp only [push_cast,seval,-Nat.reducePow,j0,j1,j7,view]
    have hb:t.isPrefixOf (s.drop j)=true:=by rw [ep]; simpa using hc
    rw [ed] at hb ⊢
    simp only [idxF,hb,if_true]
   ·simp only [push_cast,seval,-Nat.reducePow,j0,j1,j7]
    have hb:t.isPrefixOf (s.drop j)=false:=by rw [ep]; simpa using hc
    refine ⟨by omega,s.length-(j+1),by omega,j+1,by omega,rfl,by simp,?_⟩
    rw [hr,ed] at *
    simp only [idxF,hb,Bool.false_eq_true,if_false]
  ·have h':¬ ((j:Nat):Int)+(t.length:Nat)≤((s.length:Nat):Int):=by omega
   simp only [push_cast,seval,-Nat.reducePow,j0,j1,j7,h',view]
   rw [aJe ht _ _ (by simp; omega)]
   exact ⟨⟨by omega,by omega⟩,rfl⟩
def cmO:List UInt8:=[60,33,45,45]
def cmC:List UInt8:=[45,45,62]
theorem aN1 (t:List UInt8):∀ (s:List UInt8) (i k:Nat),idxF t s (i+k)=(idxF t s i).map (·+k)
 | [],i,k=>by simp only [idxF]; split <;> simp
 | x::r,i,k=>by
   simp only [idxF]
   split
   ·simp
   ·rw [show i+k+1=(i+1)+k by omega]; exact aN1 t r (i+1) k
theorem aLh {k:Nat} (h1:1≤k) (h2:k≤3):aDc (k:Nat) false=tagO k:=by
 have a1:(1:Int)≤(k:Nat):=by omega
 have a2:((k:Nat):Int)≤3:=by omega
 simp [aDc,a1,a2,tagO]
theorem aQq {k:Nat} (h1:1≤k) (h2:k≤3):aDc (k:Nat) true=tagC k:=by
 have a1:(1:Int)≤(k:Nat):=by omega
 have a2:((k:Nat):Int)≤3:=by omega
 simp [aDc,a1,a2,tagC]
theorem aU7 {k:Nat}:(tagO k).length≤20:=by have:=aCn (k:Nat); simp [tagO]; omega
theorem aOk {k:Nat}:(tagC k).length≤20:=by have:=aCn (k:Nat); simp [tagC]; omega
theorem aY4 {u:List UInt8} {k j:Nat} (h1:1≤j) (h2:j≤3) (h:(tagC k).isPrefixOf u=true):(tagO j).isPrefixOf u=false:=by
 cases hb:(tagO j).isPrefixOf u with
 | false=>rfl
 | true =>
   exfalso
   have e1:=aGd h
   have e2:=aGd hb
   have a1:u[1]?=some 47:=by
    have:=congrArg (·[1]?) e1
    have hl:1<(tagC k).length:=by simp only [tagC,List.length_append,List.length_cons]; omega
    simpa [List.getElem?_take,hl,tagC] using this
   have a2:u[1]?≠some 47:=by
    have:=congrArg (·[1]?) e2
    have hl:1<(tagO j).length:=by
     have:j=1∨j=2∨j=3:=by omega
     rcases this with rfl | rfl | rfl <;> simp [tagO,aAt]
    simp only [List.getElem?_take,hl,if_true] at this
    rw [this]
    have:j=1∨j=2∨j=3:=by omega
    rcases this with rfl | rfl | rfl <;> simp [tagO,aAt]
   exact a2 a1
theorem bK1 (hf:bBj P F T) (s t:List UInt8) (i j k:Nat) (hs:s.length≤8192) (hi:i+j≤9000) (ht:t≠[]) (hl:t.length≤16) (h:idxF t ((s.drop i).drop j) 0=some k):PTr P (F 102) [.str s,.str t,.int .i64 ((i:Int)+(j:Nat))] (.int .i64 ((i:Int)+(j:Nat)+k)):=by
 have h0:=t102 hf s t (i+j) hs hi ht hl
 have e:=aN1 t (s.drop (i+j)) 0 (i+j)
 rw [List.drop_drop] at h
 rw [h,Nat.zero_add] at e
 rw [e] at h0
 have e1:((i+j:Nat):Int)=(i:Int)+(j:Nat):=by omega
 have e2:((k+(i+j):Nat):Int)=(i:Int)+(j:Nat)+k:=by omega
 simp only [Option.map_some,e1,e2] at h0
 exact h0
theorem bJ7 (hf:bBj P F T) (s t:List UInt8) (i j:Nat) (hs:s.length≤8192) (hi:i+j≤9000) (ht:t≠[]) (hl:t.length≤16) (h:idxF t ((s.drop i).drop j) 0=none):PTr P (F 102) [.str s,.str t,.int .i64 ((i:Int)+(j:Nat))] (.int .i64 (-1)):=by
 have h0:=t102 hf s t (i+j) hs hi ht hl
 have e:=aN1 t (s.drop (i+j)) 0 (i+j)
 rw [List.drop_drop] at h
 rw [h,Nat.zero_add] at e
 rw [e] at h0
 have e1:((i+j:Nat):Int)=(i:Int)+(j:Nat):=by omega
 simp only [Option.map_none,e1] at h0
 exact h0
structure Sp (P:Program) (F T:Nat→Nat):Prop where
 h65:Is65 P F T
 h101:bIo P F T
 h102:bBj P F T
 h103:bH8 P F T
 h25:Is25 P F T
 h50:Is50 P F T
 h81:Is81 P F T
 h84:Is84 P F T
def spV (i:Nat) (q:Nat×Nat):V:=.tup [.int .i64 q.1,.int .i64 (if q.1=0 then 0 else (i+q.2:Nat):Nat)]
theorem aL4 {o:Nat→List UInt8} {u:List UInt8} {n:Nat} (h1:1≤n) (h3:n≤3) (h:(o n).isPrefixOf u=true) (hl:∀ j,1≤j→j<n→(o j).isPrefixOf u=false):aBh o u=n:=by
 have:n=1∨n=2∨n=3:=by omega
 rcases this with rfl | rfl | rfl
 ·simp [aBh,h]
 ·have a:=hl 1 (by omega) (by omega)
  simp [aBh,h,a]
 ·have a:=hl 1 (by omega) (by omega)
  have b:=hl 2 (by omega) (by omega)
  simp [aBh,h,a,b]
theorem aJg {o:Nat→List UInt8} {u:List UInt8} (h:∀ j,1≤j→j≤3→(o j).isPrefixOf u=false):aBh o u=0:=by
 simp [aBh,h 1 (by omega) (by omega),h 2 (by omega) (by omega),h 3 (by omega) (by omega)]
theorem pre2 (c:UInt8) (u:List UInt8):[c,c].isPrefixOf u=decide (2≤runL c u):=by
 match u with
 | []=>simp [runL]
 | [a] =>
   simp only [List.isPrefixOf,Bool.and_false,runL]
   split <;> simp
 | a::b::r =>
   simp only [List.isPrefixOf,Bool.and_true,runL]
   by_cases ha:a=c
   ·by_cases hb:b=c
    ·simp [ha,hb]
    ·simp [ha,hb,Ne.symm hb]
   ·simp [ha,Ne.symm ha]
theorem aK0 {c:UInt8} {u:List UInt8} (h:2≤runL c u):∃ r,u=c::r:=by
 cases u with
 | nil=>simp [runL] at h
 | cons a r =>
   by_cases ha:a=c
   ·exact ⟨r,by rw [ha]⟩
   ·simp [runL,ha] at h
theorem bI4 {u:List UInt8} (h:2≤runL 123 u):aAu u=(3,runL 123 u):=by obtain ⟨r,rfl⟩:=aK0 h; simp [aAu,h]
theorem bGr {u:List UInt8} (h:2≤runL 125 u):aAu u=(4,runL 125 u):=by obtain ⟨r,rfl⟩:=aK0 h; simp [aAu,h]
theorem bLk {u:List UInt8} (h:2≤runL 91 u):aAu u=(5,2):=by obtain ⟨r,rfl⟩:=aK0 h; simp [aAu,h]
theorem bGo {u:List UInt8} (h:2≤runL 93 u):aAu u=(6,2):=by obtain ⟨r,rfl⟩:=aK0 h; simp [aAu,h]
theorem pre1 {c:UInt8} {u:List UInt8} (h:[c].isPrefixOf u=true):∃ r,u=c::r:=by
 cases u with
 | nil=>simp at h
 | cons a r=>simp at h; exact ⟨r,by rw [h]⟩
theorem bNl {u:List UInt8} (h:[124].isPrefixOf u=true):aAu u=(7,1):=by obtain ⟨r,rfl⟩:=pre1 h; simp [aAu]
theorem f_eq {u:List UInt8} (h:[61].isPrefixOf u=true):aAu u=(8,1):=by obtain ⟨r,rfl⟩:=pre1 h; simp [aAu]
theorem f_nl {u:List UInt8} (h:[10].isPrefixOf u=true):aAu u=(2,1):=by obtain ⟨r,rfl⟩:=pre1 h; simp [aAu]
theorem bJo {u:List UInt8} (ha:[60].isPrefixOf u=true→aCl u=aCt u) (hC:∀ j,1≤j→j≤3→(tagO j).isPrefixOf u=false∧(tagC j).isPrefixOf u=false)
 (h1:[123,123].isPrefixOf u=false) (h2:[125,125].isPrefixOf u=false) (h3:[91,91].isPrefixOf u=false) (h4:[93,93].isPrefixOf u=false) (h5:[124].isPrefixOf u=false) (h6:[61].isPrefixOf u=false) (h7:[10].isPrefixOf u=false):aAu u=(0,0):=by
 cases u with
 | nil=>rfl
 | cons c r =>
   rw [pre2] at h1 h2 h3 h4
   simp only [decide_eq_false_iff_not] at h1 h2 h3 h4
   simp only [aAu]
   by_cases e:c=60
   ·subst e
    have:aCl (60::r)=aCt (60::r):=ha (by simp)
    rw [if_pos rfl,this,aCt,aJg fun j a b=>(hC j a b).1,aJg fun j a b=>(hC j a b).2]
    simp
   ·have e5:c≠124:=by intro x; subst x; simp at h5
    have e6:c≠61:=by intro x; subst x; simp at h6
    have e7:c≠10:=by intro x; subst x; simp at h7
    simp only [e,h1,h2,h3,h4,e5,e6,e7,if_false]
    split <;> (try rfl)
    split <;> (try rfl)
    split <;> (try rfl)
    split <;> rfl
theorem aKr {L:Heap} {i k n:Nat} {q:Nat×Nat} {a e:Int} (h:q=(k,n)) (hk:k≠0) (ha:a=k) (he:e=((i+n:Nat):Int)):view L 3 (.tup [.int .i64 a,.int .i64 e])=spV i q:=by
 subst h ha he; simp [view,spV,hk]
theorem t65 (H:Sp P F T) (s:List UInt8) (i:Nat) (hi:i<s.length) (hs:s.length≤8192):PTr P (F 65) [.str s,.int .i64 i] (spV i (aAu (s.drop i))):=by
 refine ptrC [] H.h65 (by simp) rfl ?_
 have hat:∀ t:List UInt8,t.length≤20→PTr P (F 101) [.str s,.int .i64 i,.str t] (.bool (t.isPrefixOf (s.drop i))):=fun t ht=>t101 H.h101 s t i (by omega) hs (by omega)
 have hne:s.drop i≠[]:=by simp; omega
 have hf60:∀ t:List UInt8,(60::t).isPrefixOf (s.drop i)=true→aAu (s.drop i)=aCl (s.drop i):=by
  intro t ht
  cases hd:s.drop i with
  | nil=>rw [hd] at ht; simp at ht
  | cons c r=>rw [hd] at ht; simp at ht; simp [aAu,← ht.1]
 simp only [c65,push_cast,seval,-Nat.reducePow]
 refine aAs (fun s1=>s1.env 0=.str s∧s1.env 1=.int .i64 i∧cmO.isPrefixOf (s.drop i)=false) ?_ ?_
 ·simp only [push_cast,seval,-Nat.reducePow]
  refine aAb (hat cmO (by simp [cmO])) (by simp only [push_cast,seval,-Nat.reducePow]) (by simp only [push_cast,seval,-Nat.reducePow]) ?_
  simp only [push_cast,seval,-Nat.reducePow]
  refine aAw (fun h=>?_) (fun h=>?_)
  ·simp only [push_cast,seval,-Nat.reducePow]
   refine ⟨by omega,?_⟩
   have ha:aAu (s.drop i)=aCl (s.drop i):=hf60 _ h
   have hA:([60,33,45,45]:List UInt8).isPrefixOf (s.drop i)=true:=h
   cases hk:idxF cmC ((s.drop i).drop 4) 0 with
   | some k =>
     have hk':idxF [45,45,62] ((s.drop i).drop 4) 0=some k:=hk
     have hle:=aGe _ _ _ _ hk
     simp only [List.length_drop] at hle
     refine aAb (bK1 H.h102 s cmC i 4 k hs (by omega) (by simp [cmC]) (by simp [cmC]) hk) (by simp only [push_cast,seval,-Nat.reducePow]) (by simp only [push_cast,seval,-Nat.reducePow]) ?_
     have h0:(0:Int)≤(i:Int)+4+k:=by omega
     simp only [push_cast,seval,-Nat.reducePow,h0]
     refine ⟨by omega,?_⟩
     exact aKr (k:=9) (n:=4+k+3) (by rw [ha]; simp only [aCl,hA,hk',if_true]) (by decide) rfl (by omega)
   | none =>
     have hk':idxF [45,45,62] ((s.drop i).drop 4) 0=none:=hk
     refine aAb (bJ7 H.h102 s cmC i 4 hs (by omega) (by simp [cmC]) (by simp [cmC]) hk) (by simp only [push_cast,seval,-Nat.reducePow]) (by simp only [push_cast,seval,-Nat.reducePow]) ?_
     simp only [push_cast,seval,-Nat.reducePow]
     exact aKr (k:=9) (n:=(s.drop i).length) (by rw [ha]; simp only [aCl,hA,hk',if_true]) (by decide) rfl (by simp; omega)
  ·simp only [push_cast,seval,-Nat.reducePow]
   exact h
 ·rintro s1 ⟨j0,j1,hA⟩
  have hA':([60,33,45,45]:List UInt8).isPrefixOf (s.drop i)=false:=hA
  simp only [push_cast,seval,-Nat.reducePow,j0,j1]
  refine aAs (fun s1=>s1.env 0=.str s∧s1.env 1=.int .i64 i∧((60::[]:List UInt8).isPrefixOf (s.drop i)=true→aCl (s.drop i)=aCt (s.drop i))) ?_ ?_
  ·simp only [push_cast,seval,-Nat.reducePow,j0,j1]
   refine aAb (hat aFh (by simp [aFh])) (by simp only [push_cast,seval,-Nat.reducePow]) (by simp only [push_cast,seval,-Nat.reducePow]) ?_
   simp only [push_cast,seval,-Nat.reducePow,j0,j1]
   refine aAw (fun h=>?_) (fun h=>?_)
   ·simp only [push_cast,seval,-Nat.reducePow,j0,j1]
    refine ⟨by omega,?_⟩
    have ha:aAu (s.drop i)=aCl (s.drop i):=hf60 _ h
    cases hk:idxF aCh ((s.drop i).drop 8) 0 with
    | some k =>
      have hle:=aGe _ _ _ _ hk
      simp only [List.length_drop] at hle
      refine aAb (bK1 H.h102 s aCh i 8 k hs (by omega) (by simp [aCh]) (by simp [aCh]) hk) (by simp only [push_cast,seval,-Nat.reducePow]) (by simp only [push_cast,seval,-Nat.reducePow]) ?_
      have h0:(0:Int)≤(i:Int)+8+k:=by omega
      simp only [push_cast,seval,-Nat.reducePow,j0,j1,h0]
      refine ⟨by omega,?_⟩
      exact aKr (k:=10) (n:=8+k+9) (by rw [ha]; simp only [aCl,hA',h,hk,Bool.false_eq_true,if_false,if_true]) (by decide) rfl (by omega)
    | none =>
      refine aAb (bJ7 H.h102 s aCh i 8 hs (by omega) (by simp [aCh]) (by simp [aCh]) hk) (by simp only [push_cast,seval,-Nat.reducePow]) (by simp only [push_cast,seval,-Nat.reducePow]) ?_
      simp only [push_cast,seval,-Nat.reducePow,j0,j1]
      intro _
      simp only [aCl,hA',h,hk,Bool.false_eq_true,if_false,if_true]
   ·simp only [push_cast,seval,-Nat.reducePow,j0,j1]
    intro _
    simp only [aCl,hA',h,Bool.false_eq_true,if_false]
  ·rintro s1 ⟨j0,j1,hB⟩
   simp only [push_cast,seval,-Nat.reducePow,j0,j1]
   refine aAs (fun s1=>s1.env 0=.str s∧s1.env 1=.int .i64 i∧(∀ j,1≤j→j≤3→(tagO j).isPrefixOf (s.drop i)=false∧(tagC j).isPrefixOf (s.drop i)=false)) ?_ ?_
   ·simp only [push_cast,seval,-Nat.reducePow,j0,j1]
    refine aAe (fun m s1=>∃ n,1≤n∧n≤4∧m=4-n∧s1.env 0=.str s∧s1.env 1=.int .i64 i∧s1.env 8=.int .i64 n∧(∀ j,1≤j→j<n→(tagO j).isPrefixOf (s.drop i)=false∧(tagC j).isPrefixOf (s.drop i)=false)) 3 ⟨1,?_⟩ fun m s1 hJ=>?_
    ·simp only [push_cast,seval,-Nat.reducePow,j0,j1]
     exact fun j h1 h2=>by omega
    ·obtain ⟨n,hn1,hn4,rfl,i0,i1,i8,hr⟩:=hJ
     by_cases hn:n≤3
     ·have h':((n:Nat):Int)≤3:=by omega
      simp only [push_cast,seval,-Nat.reducePow,i0,i1,i8,h']
      refine aAb (t25 H.h25 (n:Nat) false) (by simp only [push_cast,seval,-Nat.reducePow]) (by simp only [push_cast,seval,-Nat.reducePow]) ?_
      rw [aLh hn1 hn]
      simp only [push_cast,seval,-Nat.reducePow,i0,i1,i8,h']
      refine aAb (hat (tagO n) aU7) (by simp only [push_cast,seval,-Nat.reducePow]) (by simp only [push_cast,seval,-Nat.reducePow]) ?_
      simp only [push_cast,seval,-Nat.reducePow,i0,i1,i8,h']
      have h60:∀ z:List UInt8,(60::z).isPrefixOf (s.drop i)=true→[60].isPrefixOf (s.drop i)=true:=by
       intro z hz
       cases hd:s.drop i with
       | nil=>rw [hd] at hz; simp at hz
       | cons c r=>rw [hd] at hz; simp at hz; simp [← hz.1]
      refine aAw (fun h=>?_) (fun h=>?_)
      ·simp only [push_cast,seval,-Nat.reducePow,i0,i1,i8]
       have hl:=aU7 (k:=n)
       refine ⟨by omega,?_⟩
       have ha:=aL4 (o:=tagO) hn1 hn h fun j a b=>(hr j a b).1
       have e1:aAu (s.drop i)=aCl (s.drop i):=hf60 _ h
       have e2:=hB (h60 _ h)
       have e3:aCt (s.drop i)=(11,(tagO n).length):=by unfold aCt; rw [ha,if_pos (by omega)]
       exact aKr (k:=11) (n:=(tagO n).length) (by rw [e1,e2,e3]) (by decide) rfl (by omega)
      ·simp only [push_cast,seval,-Nat.reducePow,i0,i1,i8]
       refine aAb (t25 H.h25 (n:Nat) true) (by simp only [push_cast,seval,-Nat.reducePow]) (by simp only [push_cast,seval,-Nat.reducePow]) ?_
       rw [aQq hn1 hn]
       simp only [push_cast,seval,-Nat.reducePow,i0,i1,i8,h']
       refine aAb (hat (tagC n) aOk) (by simp only [push_cast,seval,-Nat.reducePow]) (by simp only [push_cast,seval,-Nat.reducePow]) ?_
       simp only [push_cast,seval,-Nat.reducePow,i0,i1,i8,h']
       refine aAw (fun h2=>?_) (fun h2=>?_)
       ·simp only [push_cast,seval,-Nat.reducePow,i0,i1,i8]
        have hl:=aOk (k:=n)
        refine ⟨by omega,?_⟩
        have ha:=aL4 (o:=tagC) hn1 hn h2 fun j a b=>(hr j a b).2
        have ho:=aJg (o:=tagO) fun j a b=>aY4 a b h2
        have e1:aAu (s.drop i)=aCl (s.drop i):=hf60 _ h2
        have e2:=hB (h60 _ h2)
        have e3:aCt (s.drop i)=(12,(tagC n).length):=by unfold aCt; rw [ho,ha,if_neg (by omega),if_pos (by omega)]
        exact aKr (k:=12) (n:=(tagC n).length) (by rw [e1,e2,e3]) (by decide) rfl (by omega)
       ·simp only [push_cast,seval,-Nat.reducePow,i0,i1,i8]
        refine ⟨by omega,4-(n+1),by omega,n+1,by omega,by omega,rfl,by simp,fun j a b=>?_⟩
        by_cases e:j=n
        ·subst e; exact ⟨h,h2⟩
        ·exact hr j a (by omega)
     ·have h':¬ ((n:Nat):Int)≤3:=by omega
      simp only [push_cast,seval,-Nat.reducePow,i0,i1,i8,h']
      exact fun j h1 h2=>hr j h1 (by omega)
   ·rintro s1 ⟨j0,j1,hC⟩
    have hrun:∀ c:UInt8,PTr P (F 103) [.str s,.int .i64 i,.int .u8 c.toNat] (.int .i64 (i+runL c (s.drop i):Nat)):=fun c=>t103 H.h103 s c i (by omega) (by omega)
    have hru:∀ c:UInt8,runL c (s.drop i)≤s.length:=fun c=>by have:=aRx c (s.drop i); simp at this; omega
    have hru1:=hru 123
    have hru2:=hru 125
    simp only [push_cast,seval,-Nat.reducePow,j0,j1]
    refine aAs (fun s1=>s1.env 0=.str s∧aAu (s.drop i)=(0,0)) ?_ ?_
    ·simp only [push_cast,seval,-Nat.reducePow,j0,j1]
     refine aAb (hat [123,123] (by simp)) (by simp only [push_cast,seval,-Nat.reducePow]) (by simp only [push_cast,seval,-Nat.reducePow]) ?_
     simp only [push_cast,seval,-Nat.reducePow,j0,j1]
     refine aAw (fun g1=>?_) (fun g1=>?_)
     ·simp only [push_cast,seval,-Nat.reducePow,j0,j1]
      refine aAb (hrun 123) (by simp only [push_cast,seval,-Nat.reducePow]) (by simp only [push_cast,seval,-Nat.reducePow]) ?_
      rw [pre2] at g1
      simp only [push_cast,seval,-Nat.reducePow,j0,j1]
      exact aKr (bI4 (of_decide_eq_true g1)) (by decide) rfl (by simp)
     simp only [push_cast,seval,-Nat.reducePow,j0,j1]
     refine aAb (hat [125,125] (by simp)) (by simp only [push_cast,seval,-Nat.reducePow]) (by simp only [push_cast,seval,-Nat.reducePow]) ?_
     simp only [push_cast,seval,-Nat.reducePow,j0,j1]
     refine aAw (fun g2=>?_) (fun g2=>?_)
     ·simp only [push_cast,seval,-Nat.reducePow,j0,j1]
      refine aAb (hrun 125) (by simp only [push_cast,seval,-Nat.reducePow]) (by simp only [push_cast,seval,-Nat.reducePow]) ?_
      rw [pre2] at g2
      simp only [push_cast,seval,-Nat.reducePow,j0,j1]
      exact aKr (bGr (of_decide_eq_true g2)) (by decide) rfl (by simp)
     simp only [push_cast,seval,-Nat.reducePow,j0,j1]
     refine aAb (hat [91,91] (by simp)) (by simp only [push_cast,seval,-Nat.reducePow]) (by simp only [push_cast,seval,-Nat.reducePow]) ?_
     simp only [push_cast,seval,-Nat.reducePow,j0,j1]
     refine aAw (fun g3=>?_) (fun g3=>?_)
     ·rw [pre2] at g3
      simp only [push_cast,seval,-Nat.reducePow,j0,j1]
      exact ⟨by omega,aKr (bLk (of_decide_eq_true g3)) (by decide) rfl (by simp)⟩
     simp only [push_cast,seval,-Nat.reducePow,j0,j1]
     refine aAb (hat [93,93] (by simp)) (by simp only [push_cast,seval,-Nat.reducePow]) (by simp only [push_cast,seval,-Nat.reducePow]) ?_
     simp only [push_cast,seval,-Nat.reducePow,j0,j1]
     refine aAw (fun g4=>?_) (fun g4=>?_)
     ·rw [pre2] at g4
      simp only [push_cast,seval,-Nat.reducePow,j0,j1]
      exact ⟨by omega,aKr (bGo (of_decide_eq_true g4)) (by decide) rfl (by simp)⟩
     simp only [push_cast,seval,-Nat.reducePow,j0,j1]
     refine aAb (hat [124] (by simp)) (by simp only [push_cast,seval,-Nat.reducePow]) (by simp only [push_cast,seval,-Nat.reducePow]) ?_
     simp only [push_cast,seval,-Nat.reducePow,j0,j1]
     refine aAw (fun g5=>?_) (fun g5=>?_)
     ·simp only [push_cast,seval,-Nat.reducePow,j0,j1]
      exact ⟨by omega,aKr (bNl g5) (by decide) rfl (by simp)⟩
     simp only [push_cast,seval,-Nat.reducePow,j0,j1]
     refine aAb (hat [61] (by simp)) (by simp only [push_cast,seval,-Nat.reducePow]) (by simp only [push_cast,seval,-Nat.reducePow]) ?_
     simp only [push_cast,seval,-Nat.reducePow,j0,j1]
     refine aAw (fun g6=>?_) (fun g6=>?_)
     ·simp only [push_cast,seval,-Nat.reducePow,j0,j1]
      exact ⟨by omega,aKr (f_eq g6) (by decide) rfl (by simp)⟩
     simp only [push_cast,seval,-Nat.reducePow,j0,j1]
     refine aAb (hat [10] (by simp)) (by simp only [push_cast,seval,-Nat.reducePow]) (by simp only [push_cast,seval,-Nat.reducePow]) ?_
     simp only [push_cast,seval,-Nat.reducePow,j0,j1]
     refine aAw (fun g7=>?_) (fun g7=>?_)
     ·simp only [push_cast,seval,-Nat.reducePow,j0,j1]
      exact ⟨by omega,aKr (f_nl g7) (by decide) rfl (by simp)⟩
     simp only [push_cast,seval,-Nat.reducePow,j0,j1]
     exact bJo hB hC g1 g2 g3 g4 g5 g6 g7
    ·rintro s2 ⟨k0,hz⟩
     simp only [push_cast,seval,-Nat.reducePow,k0]
     rw [hz]
     simp [view,spV]
end Go.Ab
namespace Go.Ab
variable {P:Program} {F T:Nat→Nat}
theorem t50 (H:Sp P F T) (s:List UInt8) (hs:s.length≤8192):PTr P (F 50) [.str s] (.tup [.lst 3 (tvs (scan s)),.int .i64 0]):=by
 refine ptrC [] H.h50 (by simp) (by simp [V.imm,V.imms,aHn]) ?_
 have hs':¬ (8192:Int)<((s.length:Nat):Int):=by omega
 simp only [c50,push_cast,seval,-Nat.reducePow,hs']
 refine aAe (fun m s1=>∃ a t i n id,scan s=a++aH8 s n t i∧m=s.length-i∧t≤i∧i≤s.length∧s.length-i<n∧a.length≤2*i∧s1.env 0=.str s∧s1.env 5=.int .i64 t∧s1.env 6=.int .i64 i∧s1.env 4=.own id 3 0 a.length∧s1.L id=some (.vec (T 8) 3 (tvs a))∧id<s1.nx) s.length ⟨[],0,0,s.length+1,168,?_⟩ fun m s1 hJ=>?_
 ·simp only [push_cast,seval,-Nat.reducePow,scan,Nat.sub_zero]
  exact ⟨by omega,rfl⟩
 ·obtain ⟨a,t,i,n,id,hsc,rfl,hti,hil,hn,hal,j0,j5,j6,j4,jL,hid⟩:=hJ
  obtain ⟨n,rfl⟩:∃ k,n=k+1:=⟨n-1,by omega⟩
  have tk:List.take a.length (tvs a)=tvs a:=List.take_of_length_le (by simp [aDm])
  have view_fin:∀ (L:Heap) (j:Nat) (b:List Tok),L j=some (.vec (T 8) 3 (tvs b))→view L 3 (.tup [.own j 3 0 b.length,.int .i64 0])=.tup [.lst 3 (tvs b),.int .i64 0]:=fun L j b h=>by
   have:=aIk (sz:=3) h (aHn b)
   rw [aDm] at this
   simp only [view,List.map_cons,List.map_nil] at this ⊢
   rw [this]
  by_cases hi:i<s.length
  ·have hi':((i:Nat):Int)<((s.length:Nat):Int):=by omega
   simp only [push_cast,seval,-Nat.reducePow,j0,j5,j6,hi',List.take_length]
   have hne:s.drop i≠[]:=by intro e; have:=congrArg List.length e; simp at this; omega
   refine aAb (t65 H s i hi hs) (by simp only [push_cast,seval,-Nat.reducePow]) (by simp only [push_cast,seval,-Nat.reducePow,spV]) ?_
   simp only [push_cast,seval,-Nat.reducePow,spV]
   rw [aH8,if_pos hi] at hsc
   generalize hq:aAu (s.drop i)=q at *
   refine aAh (fun h0=>?_) (fun h0=>?_)
   ·have h0':q.1=0:=by omega
    rw [if_pos h0'] at hsc
    simp only [push_cast,seval,-Nat.reducePow,j0,j5,j6]
    refine ⟨by omega,s.length-(i+1),by omega,a,t,i+1,n,id,hsc,rfl,by omega,by omega,by omega,by omega,rfl,by simp,j4,jL,by omega⟩
   ·have h0':q.1≠0:=by omega
    rw [if_neg h0'] at hsc
    have fs:=aHc (s:=s.drop i) (by rw [hq]; exact h0')
    rw [hq] at fs
    have hle:=fs.le
    have hpos:=fs.pos
    have hif:(if q.1=0 then 0 else i+q.2)=i+q.2:=if_neg h0'
    rw [List.length_drop] at hle
    by_cases ht:t<i
    ·have ht':((t:Nat):Int)<((i:Nat):Int):=by omega
     rw [if_pos ht] at hsc
     have hb:tvs a++[.agg [.int .i64 1,.int .i64 t,.int .i64 i]]=tvs (a++[⟨1,t,i⟩]):=by rw [aFl]; rfl
     have hb2:tvs (a++[⟨1,t,i⟩])++[.agg [.int .i64 q.1,.int .i64 i,.int .i64 ((i:Int)+(q.2:Nat))]]=tvs (a++[⟨1,t,i⟩]++[⟨q.1,i,i+q.2⟩]):=by rw [aFl (a++_)]; rfl
     have tk2:List.take (a.length+1) (tvs (a++[⟨1,t,i⟩]))=tvs (a++[⟨1,t,i⟩]):=List.take_of_length_le (by simp [aDm])
     have x1:s1.nx+258≠id:=by omega
     simp only [push_cast,seval,-Nat.reducePow,j0,j4,j5,j6,jL,ht',tk,hif,hb,hb2,tk2]
     refine ⟨by omega,by simp,by omega,s.length-(i+q.2),by omega,a++[⟨1,t,i⟩]++[⟨q.1,i,i+q.2⟩],i+q.2,i+q.2,n,s1.nx+321,by rw [hsc]; simp,rfl,by omega,by omega,by omega,by simp; omega,by simp,by simp,by simp,by simp only [aBm,if_true],by omega⟩
    ·have ht':¬ ((t:Nat):Int)<((i:Nat):Int):=by omega
     rw [if_neg ht,List.nil_append] at hsc
     have hb:tvs a++[.agg [.int .i64 q.1,.int .i64 i,.int .i64 ((i:Int)+(q.2:Nat))]]=tvs (a++[⟨q.1,i,i+q.2⟩]):=by rw [aFl]; rfl
     simp only [push_cast,seval,-Nat.reducePow,j0,j4,j5,j6,jL,ht',tk,hif,hb]
     refine ⟨by omega,s.length-(i+q.2),by omega,a++[⟨q.1,i,i+q.2⟩],i+q.2,i+q.2,n,s1.nx+265,by rw [hsc]; simp,rfl,by omega,by omega,by omega,by simp; omega,by simp,by simp,by simp,by simp only [aBm,if_true],by omega⟩
  ·have hi':¬ ((i:Nat):Int)<((s.length:Nat):Int):=by omega
   rw [aH8,if_neg hi] at hsc
   by_cases ht:t<s.length
   ·have ht':((t:Nat):Int)<((s.length:Nat):Int):=by omega
    rw [if_pos ht] at hsc
    have hb:tvs a++[.agg [.int .i64 1,.int .i64 t,.int .i64 s.length]]=tvs (a++[⟨1,t,s.length⟩]):=by rw [aFl]; rfl
    simp only [push_cast,seval,-Nat.reducePow,j0,j4,j5,j6,jL,hi',ht',tk,hb]
    refine ⟨by omega,?_⟩
    rw [hsc]
    have:=view_fin (upd (upd s1.L id none) (s1.nx+166) (some (Blk.vec (T 8) 3 (tvs (a++[⟨1,t,s.length⟩]))))) (s1.nx+166) (a++[⟨1,t,s.length⟩]) (by simp only [aBm,if_true])
    simpa using this
   ·have ht':¬ ((t:Nat):Int)<((s.length:Nat):Int):=by omega
    rw [if_neg ht,List.append_nil] at hsc
    simp only [push_cast,seval,-Nat.reducePow,j0,j4,j5,j6,jL,hi',ht',tk]
    rw [hsc]
    exact view_fin _ _ _ jL
theorem t81 (hf:Is81 P F T) (s:List UInt8) (t:Tok) (h1:t.fr≤t.to) (h2:t.to≤s.length) (h3:s.length≤8192):PTr P (F 81) [.str s,.agg t.vs] (.str (t.text s)):=by
 refine ptrC [] hf (by simp) rfl ?_
 have a1:¬ ((t.fr:Nat):Int)<0:=by omega
 have a2:¬ ((t.to:Nat):Int)<((t.fr:Nat):Int):=by omega
 have a3:¬ ((s.length:Nat):Int)<((t.to:Nat):Int):=by omega
 simp only [c81,push_cast,seval,-Nat.reducePow,Tok.vs,a1,a2,a3]
 exact ⟨h1,h2,rfl⟩
theorem t84 (hf:Is84 P F T) (h81:Is81 P F T) (h25:Is25 P F T) (s:List UInt8) (t:Tok) (h1:t.fr≤t.to) (h2:t.to≤s.length) (h3:s.length≤8192) (hk:t.kind=11∨t.kind=12) (hx:t.kind=11→∃ k,1≤k∧k≤3∧t.text s=tagO k) (hy:t.kind=12→∃ k,1≤k∧k≤3∧t.text s=tagC k) :
 PTr P (F 84) [.str s,.agg t.vs] (.int .i64 (t.tag s)):=by
 obtain ⟨k,g1,g2,g3⟩:∃ k,1≤k∧k≤3∧((t.kind=11∧t.text s=tagO k)∨(t.kind=12∧t.text s=tagC k)):=by
  rcases hk with h | h
  ·obtain ⟨k,a,b,c⟩:=hx h; exact ⟨k,a,b,.inl ⟨h,c⟩⟩
  ·obtain ⟨k,a,b,c⟩:=hy h; exact ⟨k,a,b,.inr ⟨h,c⟩⟩
 have hres:t.tag s=k:=by
  rcases g3 with ⟨h,c⟩ | ⟨h,c⟩
  ·rw [Tok.tag,if_pos h,c]; exact aOs g1 g2
  ·rw [Tok.tag,if_neg (by omega),if_pos h,c]; exact aL8 g1 g2
 have h81':=t81 h81 s t h1 h2 h3
 refine ptrC [] hf (by simp) rfl ?_
 simp only [c84,push_cast,seval,-Nat.reducePow,Tok.vs]
 refine aAe (fun m s1=>∃ n,1≤n∧n≤k∧m=4-n∧s1.env 0=.str s∧s1.env 3=.ptr 3 0∧s1.env 5=.int .i64 n∧s1.L 3=some (.box (T 8) t.vs)) 3 ⟨1,?_⟩ fun m s1 hJ=>?_
 ·simp only [push_cast,seval,-Nat.reducePow,Tok.vs]
  exact g1
 ·obtain ⟨n,a1,a2,rfl,j0,j3,j5,jL⟩:=hJ
  have a3:((n:Nat):Int)≤3:=by omega
  clear hx hy hk
  obtain ⟨kd,fr,to⟩:=t
  rcases g3 with ⟨gk,gt⟩ | ⟨gk,gt⟩
  ·have gk':kd=11:=gk
   subst gk'
   have hO:∀ n,1≤n→n≤3→tagO k=tagO n→k=n:=fun n x y e=>by have:=aOs x y; rw [← e,aOs g1 g2] at this; exact this
   simp only [push_cast,seval,-Nat.reducePow,j0,j3,j5,jL,Tok.vs,a3]
   refine aAb h81' (by simp only [push_cast,seval,-Nat.reducePow,Tok.vs]) (by simp only [push_cast,seval,-Nat.reducePow]) ?_
   simp only [push_cast,seval,-Nat.reducePow,j0,j3,j5,jL,Tok.vs,a3]
   refine aAb (t25 h25 (n:Nat) false) (by simp only [push_cast,seval,-Nat.reducePow]) (by simp only [push_cast,seval,-Nat.reducePow]) ?_
   rw [aLh a1 (by omega),gt]
   by_cases e:n=k
   ·subst e
    simp only [push_cast,seval,-Nat.reducePow,j0,j3,j5,jL,Tok.vs,a3,view,hres]
   ·have e2:¬ tagO k=tagO n:=fun x=>e (hO n a1 (by omega) x).symm
    simp only [push_cast,seval,-Nat.reducePow,j0,j3,j5,jL,Tok.vs,a3,e2]
    exact ⟨by omega,4-(n+1),by omega,n+1,by omega,by omega,rfl,by simp⟩
  ·have gk':kd=12:=gk
   subst gk'
   have hO:∀ n,1≤n→n≤3→tagC k=tagC n→k=n:=fun n x y e=>by have:=aL8 x y; rw [← e,aL8 g1 g2] at this; exact this
   simp only [push_cast,seval,-Nat.reducePow,j0,j3,j5,jL,Tok.vs,a3]
   refine aAb h81' (by simp only [push_cast,seval,-Nat.reducePow,Tok.vs]) (by simp only [push_cast,seval,-Nat.reducePow]) ?_
   simp only [push_cast,seval,-Nat.reducePow,j0,j3,j5,jL,Tok.vs,a3]
   refine aAb (t25 h25 (n:Nat) true) (by simp only [push_cast,seval,-Nat.reducePow]) (by simp only [push_cast,seval,-Nat.reducePow]) ?_
   rw [aQq a1 (by omega),gt]
   by_cases e:n=k
   ·subst e
    simp only [push_cast,seval,-Nat.reducePow,j0,j3,j5,jL,Tok.vs,a3,view,hres]
   ·have e2:¬ tagC k=tagC n:=fun x=>e (hO n a1 (by omega) x).symm
    simp only [push_cast,seval,-Nat.reducePow,j0,j3,j5,jL,Tok.vs,a3,e2]
    exact ⟨by omega,4-(n+1),by omega,n+1,by omega,by omega,rfl,by simp⟩
end Go.Ab
namespace Go.Ab
variable {P:Program} {F T:Nat→Nat}
def El.rc (e:El):List V:=[.int .i64 e.kind,.int .i64 e.tag,.int .i64 e.count,.lst 5 (encs e.list),.lst 3 (encA e.args)]
def rvs (els:List El):List V:=els.reverse.map fun e=>.agg e.rc
theorem aO1:rvs []=[]:=rfl
theorem aDv (e:El) (r:List El):rvs (e::r)=rvs r++[.agg e.rc]:=by simp [rvs]
theorem aA7 (els:List El):(rvs els).length=els.length:=by simp [rvs]
theorem bH7 (e:El) (r:List El):(rvs (e::r)).getD r.length .junk=.agg e.rc:=by
 rw [aDv,List.getD_eq_getElem?_getD,← aA7 r]; simp
theorem aVb (e:El) (r:List El):(rvs (e::r)).take r.length=rvs r:=by
 rw [aDv,← aA7 r]; simp
theorem aJi (e:El):V.imms e.rc=true:=by simp [El.rc,V.imms,V.imm,aAm,aBg]
theorem aFo (els:List El):V.imms (rvs els)=true:=by
 induction els with
 | nil=>rfl
 | cons e r ih=>rw [aDv,aB1,ih]; simp [V.imms,V.imm,aJi]
structure RP (T:Nat→Nat) (L:Heap) (nx p:Nat) (els:List El):Prop where
 box:L p=some (.box (T 9) [.lst 5 (rvs els)])
 lt:p<nx
structure RD (T:Nat→Nat) (L:Heap) (nx p:Nat) (els:List El) (L':Heap) (nx':Nat):Prop where
 box:L' p=some (.box (T 9) [.lst 5 (rvs els)])
 le:nx≤nx'
 fr:∀ b ty cs,b<nx→b≠p→L b=some (.box ty cs)→V.imms cs=true→L' b=some (.box ty cs)
theorem RD.rp {L L':Heap} {nx nx' p:Nat} {els:List El} (h:RD T L nx p els L' nx') (hp:p<nx):RP T L' nx' p els:=⟨h.box,Nat.lt_of_lt_of_le hp h.le⟩
theorem RD.trans {L L1 L2:Heap} {nx n1 n2 p:Nat} {a b:List El} (h:RD T L nx p a L1 n1) (k:RD T L1 n1 p b L2 n2):RD T L nx p b L2 n2 :=
 ⟨k.box,Nat.le_trans h.le k.le,fun x ty cs hx hne hb hi=>k.fr x ty cs (Nat.lt_of_lt_of_le hx h.le) hne (h.fr x ty cs hx hne hb hi) hi⟩
theorem aFp {L:Heap} {nx p:Nat} (h:p<nx):∀ (n:Nat) (x:Option Blk) (M:Heap),upd M (nx+n) x p=M p:=fun n x M=>aAc _ _ _ _ (by omega)
theorem bGz {s:St} {p id ty ty0 sz:Nat} {es:List V} {n:Nat} (hp:s.L p=some (.box ty0 [.own id sz 0 n])) (hid:s.L id=some (.vec ty sz es)) (hn:n=es.length) (hi:V.imms es=true) :
 ∃ s',FzS s s'∧s'.nx=s.nx∧s'.L p=some (.box ty0 [.lst sz es])∧(∀ i,(s.env i).imm=true→s'.env i=s.env i)∧(∀ i a b,s.env i=.ptr a b→s'.env i=.ptr a b) ∧
   (∀ b ty cs,s.L b=some (.box ty cs)→V.imms cs=true→s'.L b=some (.box ty cs)):=by
 have key:∀ b ty1 cs,s.L b=some (.box ty1 cs)→aBa id es s.L b=some (.box ty1 (V.fzL id es cs)):=by
  intro b ty1 cs hb
  have hne:b≠id:=by rintro rfl; rw [hid] at hb; cases hb
  simp [aBa,hne,hb,Blk.fz]
 refine ⟨s.fz id es,.step id ty sz es hid hi (.refl _),rfl,?_,fun i h=>aHs id es _ h,fun i a b h=>?_,fun b ty1 cs hb hc=>?_⟩
 ·rw [show (s.fz id es).L p=aBa id es s.L p from rfl,key p ty0 _ hp]
  subst hn
  simp [V.fzL,V.fz]
 ·show (s.env i).fz id es=_
  rw [h]; rfl
 ·rw [show (s.fz id es).L b=aBa id es s.L b from rfl,key b ty1 cs hb,aC5 id es cs hc]
theorem aKy {s:St} {K:St→Prop} {p id ty ty0 sz:Nat} {es:List V} {n:Nat} (hp:s.L p=some (.box ty0 [.own id sz 0 n])) (hid:s.L id=some (.vec ty sz es)) (hn:n=es.length) (hi:V.imms es=true)
 (h:∀ s':St,s'.nx=s.nx→s'.L p=some (.box ty0 [.lst sz es])→(∀ i,(s.env i).imm=true→s'.env i=s.env i)→(∀ i a b,s.env i=.ptr a b→s'.env i=.ptr a b) →
  (∀ b ty cs,s.L b=some (.box ty cs)→V.imms cs=true→s'.L b=some (.box ty cs))→K s'):∃ s',FzS s s'∧K s':=by
 obtain ⟨s',h1,h2,h3,h4,h5,h6⟩:=bGz hp hid hn hi
 exact ⟨s',h1,h s' h2 h3 h4 h5 h6⟩
theorem aIl {d ty sz:Nat} {ys:List V} {s:St} {K:St→Prop} (hne:ys≠[]) (h:ys.length≤2^32∧K ((s.add (s.nx+d) (.vec ty sz ys)).set d (.own (s.nx+d) sz 0 ys.length))):aPy d ty sz .nils (.lst sz ys) s K :=
 aBw (by rw [aRk]; exact ⟨fun e=>absurd e hne,fun _=>h⟩)
theorem t62 (hf:Is62 P F T) {L:Heap} {nx p:Nat} {e:El} {r:List El} (h:RP T L nx p (e::r)) (hl:r.length<2^30) :
 ECall P (F 62) [.ptr p 0] L nx (fun v L' nx'=>v=.agg e.rc∧nx≤nx'∧∀ b,b<nx→L' b=L b):=by
 have h0:=h.box
 have hp:=h.lt
 have ht:=bH7 e r
 have hn:=aA7 (e::r)
 have hq:=aFp (L:=L) hp
 have hqb:∀ (b:Nat),b<nx→∀ (n:Nat) (x:Option Blk) (M:Heap),upd M (nx+n) x b=M b:=fun b hb=>aFp (L:=L) hb
 refine aA2 [] hf (by simp) ?_
 have e1:((r.length:Nat):Int)+1-1=(r.length:Nat):=by omega
 simp only [c62,push_cast,seval,-Nat.reducePow,h0,hn,List.length_cons,e1,ht,hq,El.rc]
 refine ⟨by omega,by omega,by omega,by omega,fun b hb=>?_⟩
 rw [hqb b hb,hqb b hb]
theorem t88 (hf:Is88 P F T) (h62:Is62 P F T) {L:Heap} {nx p:Nat} {e:El} {r:List El} (h:RP T L nx p (e::r)) (hl:r.length<2^30) (hne:r≠[]) :
 ECall P (F 88) [.ptr p 0] L nx (fun v L' nx'=>v=.agg e.rc∧RD T L nx p r L' nx'):=by
 have h0:=h.box
 have hp:=h.lt
 have ht:=aVb e r
 have hn:=aA7 (e::r)
 have hnr:=aA7 r
 have hq:=aFp (L:=L) hp
 have e1:((r.length:Nat):Int)+1-1=(r.length:Nat):=by omega
 refine aA2 [] hf (by simp) ?_
 simp only [c88,push_cast,seval,-Nat.reducePow,h0]
 refine aAa (t62 h62 (L:=upd L (nx+2) (some (Blk.box (T 11) [V.int IntKind.i64 0,V.int IntKind.i64 0,V.int IntKind.i64 0,V.nils,V.nils]))) (nx:=nx+44) (p:=p) (e:=e) (r:=r) ⟨by rw [hq]; exact h0,by omega⟩ hl) ?_
 rintro v L1 n1 ⟨rfl,g1,g2⟩
 have k1:L1 p=some (.box (T 9) [.lst 5 (rvs (e::r))]):=by rw [g2 p (by omega),hq]; exact h0
 have hp1:p<n1:=by omega
 have hq1:=aFp (L:=L1) hp1
 simp only [push_cast,seval,-Nat.reducePow,k1,hq1,hn,List.length_cons,e1,ht,El.rc]
 have hrn:rvs r≠[]:=by intro x; have:=congrArg List.length x; rw [hnr] at this; exact hne (List.length_eq_zero_iff.1 this)
 refine ⟨⟨by omega,by omega⟩,by omega,aIl hrn ?_⟩
 simp only [push_cast,seval,-Nat.reducePow,k1,hq1,hn,List.length_cons,e1,ht,El.rc,hnr]
 refine ⟨by omega,?_⟩
 have hpi:∀ (n:Nat) (x:Option Blk) (M:Heap),upd M p x (n1+n)=M (n1+n):=fun n x M=>aAc _ _ _ _ (by omega)
 have hi:=aFo r
 have hu:=fun (x:Option Blk) (M:Heap)=>aAd M p x
 have hui:=fun (n:Nat) (x:Option Blk) (M:Heap)=>aAd M (n1+n) x
 refine aKy (p:=p) (id:=n1+40) (ty:=T 11) (ty0:=T 9) (sz:=5) (es:=rvs r) (n:=r.length) ?_ ?_ hnr.symm hi ?_
 ·simp only [push_cast,seval,-Nat.reducePow,hu]
 ·simp only [push_cast,seval,-Nat.reducePow,hpi,hui]
 ·intro s' f2 f3 f4 f5 f6
  have v3:=f5 3 (n1+3) 0 (by simp only [push_cast,seval,-Nat.reducePow])
  have v2:=f5 2 (nx+2) 0 (by simp only [push_cast,seval,-Nat.reducePow])
  have w3:=f6 (n1+3) (T 11) e.rc (by simp only [push_cast,seval,-Nat.reducePow,hpi,El.rc]) (aJi e)
  have z2:L1 (nx+2)=some (.box (T 11) [.int .i64 0,.int .i64 0,.int .i64 0,.nils,.nils]):=by rw [g2 _ (by omega)]; exact aAd _ _ _
  have hn2:∀ (n:Nat) (x:Option Blk) (M:Heap),upd M (n1+n) x (nx+2)=M (nx+2):=fun n x M=>aAc _ _ _ _ (by omega)
  have hp2:∀ (x:Option Blk) (M:Heap),upd M p x (nx+2)=M (nx+2):=fun x M=>aAc _ _ _ _ (by omega)
  have h2p:∀ (x:Option Blk) (M:Heap),upd M (nx+2) x p=M p:=fun x M=>aAc _ _ _ _ (by omega)
  have w2:=f6 (nx+2) (T 11) [.int .i64 0,.int .i64 0,.int .i64 0,.nils,.nils] (by simp only [push_cast,seval,-Nat.reducePow,hp2,hn2,z2]) (by simp only [push_cast,seval,-Nat.reducePow])
  have fr:∀ b ty cs,b<nx→b≠p→L b=some (.box ty cs)→V.imms cs=true→s'.L b=some (.box ty cs):=by
   intro b ty cs hb hbp hLb hc
   refine f6 b ty cs ?_ hc
   have a1:∀ (n:Nat) (x:Option Blk) (M:Heap),upd M (n1+n) x b=M b:=fun n x M=>aAc _ _ _ _ (by omega)
   have a2:∀ (x:Option Blk) (M:Heap),upd M p x b=M b:=fun x M=>aAc _ _ _ _ hbp
   have a3:∀ (n:Nat) (x:Option Blk) (M:Heap),upd M (nx+n) x b=M b:=fun n x M=>aAc _ _ _ _ (by omega)
   simp only [push_cast,seval,-Nat.reducePow,a1,a2]
   rw [g2 b (by omega),a3,hLb]
  simp only [push_cast,seval,-Nat.reducePow] at f2
  clear f4 f5 f6
  simp only [push_cast,seval,-Nat.reducePow,v2,v3,w2,w3,El.rc,f2]
  refine ⟨by omega,⟨?_,by omega,fun b ty cs hb hbp hLb hc=>?_⟩⟩
  ·simp only [push_cast,seval,-Nat.reducePow,h2p]; exact f3
  ·rw [aAc _ _ _ _ (by omega)]
   exact fr b ty cs hb hbp hLb hc
theorem t85 (hf:Is85 P F T) {L:Heap} {nx p:Nat} {e e':El} {r:List El} (h:RP T L nx p (e::r)) (hl:r.length<2^30) :
 ECall P (F 85) [.ptr p 0,.agg e'.rc] L nx (fun _ L' nx'=>RD T L nx p (e'::r) L' nx'):=by
 have h0:=h.box
 have hp:=h.lt
 have ht:=aVb e r
 have hn:=aA7 (e::r)
 have hnr:=aA7 r
 have hc:=aDv e' r
 have hi:=aFo (e'::r)
 have hq:=aFp (L:=L) hp
 have hu:=fun (x:Option Blk) (M:Heap)=>aAd M p x
 have hui:=fun (n:Nat) (x:Option Blk) (M:Heap)=>aAd M (nx+n) x
 have hpi:∀ (n:Nat) (x:Option Blk) (M:Heap),upd M p x (nx+n)=M (nx+n):=fun n x M=>aAc _ _ _ _ (by omega)
 have hir:=aJi e'
 have e1:((r.length:Nat):Int)+1-1=(r.length:Nat):=by omega
 have fin:∀ s':St,∀ m,s'.nx=m→nx≤m→s'.L p=some (.box (T 9) [.lst 5 (rvs (e'::r))])→(∀ b ty cs,b<nx→b≠p→L b=some (.box ty cs)→V.imms cs=true→s'.L b=some (.box ty cs))→RD T L nx p (e'::r) s'.L m :=
  fun s' m a b c d=>⟨c,b,d⟩
 have a1:∀ b,b<nx→∀ (n:Nat) (x:Option Blk) (M:Heap),upd M (nx+n) x b=M b:=fun b hb n x M=>aAc _ _ _ _ (by omega)
 have a2:∀ b,b≠p→∀ (x:Option Blk) (M:Heap),upd M p x b=M b:=fun b hb x M=>aAc _ _ _ _ hb
 refine aA2 [] hf (by simp) ?_
 by_cases hne:r=[]
 ·subst hne
  simp only [c85,push_cast,seval,-Nat.reducePow,h0,hq,hir,hn,e1,El.rc,hui,aO1,aDv]
  refine aBw ?_
  simp only [push_cast,seval,-Nat.reducePow,h0,hq,hir,hn,e1,El.rc,hui,aO1,aDv,aK1]
  refine aBw ?_
  simp only [push_cast,seval,-Nat.reducePow,h0,hq,hir,hn,e1,El.rc,hui,aO1,aDv,aI1]
  refine ⟨by omega,aKy (p:=p) (id:=nx+41) (ty:=T 11) (ty0:=T 9) (sz:=5) (es:=rvs [e']) (n:=1) ?_ ?_ ?_ hi ?_⟩
  ·simp only [push_cast,seval,-Nat.reducePow,hu]
  ·simp only [push_cast,seval,-Nat.reducePow,hpi,hui,aDv,aO1,El.rc]
  ·simp [aA7]
  ·intro s' f2 f3 f4 f5 f6
   have f2':s'.nx=nx+44:=f2
   refine ⟨by omega,⟨f3,by omega,fun b ty cs hb hbp hLb hcc=>f6 b ty cs ?_ hcc⟩⟩
   simp only [push_cast,seval,-Nat.reducePow,a1 b hb,a2 b hbp,hLb]
 ·have hrn:rvs r≠[]:=by intro x; have:=congrArg List.length x; rw [hnr] at this; exact hne (List.length_eq_zero_iff.1 this)
  simp only [c85,push_cast,seval,-Nat.reducePow,h0,hq,hir,hn,List.length_cons,e1,ht,El.rc]
  refine ⟨⟨by omega,by omega⟩,by omega,aIl hrn ?_⟩
  have tk:(rvs r).take r.length=rvs r:=List.take_of_length_le (by omega)
  simp only [push_cast,seval,-Nat.reducePow,h0,hq,hir,hn,List.length_cons,e1,ht,El.rc,hnr,hui,tk]
  refine ⟨by omega,by omega,aKy (p:=p) (id:=nx+41) (ty:=T 11) (ty0:=T 9) (sz:=5) (es:=rvs (e'::r)) (n:=r.length+1) ?_ ?_ ?_ hi ?_⟩
  ·simp only [push_cast,seval,-Nat.reducePow,hu]
  ·simp only [push_cast,seval,-Nat.reducePow,hpi,hui,hc,El.rc]
  ·simp [aA7]
  ·intro s' f2 f3 f4 f5 f6
   have f2':s'.nx=nx+44:=f2
   refine ⟨by omega,⟨f3,by omega,fun b ty cs hb hbp hLb hcc=>f6 b ty cs ?_ hcc⟩⟩
   simp only [push_cast,seval,-Nat.reducePow,a1 b hb,a2 b hbp,hLb]
end Go.Ab
namespace Go.Ab
variable {P:Program} {F T:Nat→Nat}
theorem t111 (hf:bHg P F T) (c:UInt8) (n:Nat) (hn:n≤2^30):PTr P (F 111) [.int .i64 n,.str [c]] (.str (List.replicate n c)):=by
 refine ptrC [] hf (by simp) rfl ?_
 simp only [c111,push_cast,seval,-Nat.reducePow]
 refine aAe (fun m s1=>∃ k,k≤n∧m=n-k∧s1.env 0=.int .i64 n∧s1.env 1=.str [c]∧s1.env 5=.str (List.replicate k c)∧s1.env 6=.int .i64 k) n ⟨0,?_⟩ fun m s1 hJ=>?_
 ·simp only [push_cast,seval,-Nat.reducePow,List.replicate,Nat.sub_zero]
 ·obtain ⟨k,hk,rfl,j0,j1,j5,j6⟩:=hJ
  by_cases h:k<n
  ·have h':((k:Nat):Int)<((n:Nat):Int):=by omega
   simp only [push_cast,seval,-Nat.reducePow,j0,j1,j5,j6,h']
   refine ⟨by simp; omega,by omega,n-(k+1),by omega,k+1,by omega,rfl,?_,by simp⟩
   rw [← List.replicate_succ']
  ·have h':¬ ((k:Nat):Int)<((n:Nat):Int):=by omega
   have e:k=n:=by omega
   subst e
   simp only [push_cast,seval,-Nat.reducePow,j0,j1,j5,j6,h',view]
theorem aGv (i:List Node) (a:Node):encs (i++[a])=encs i++[.agg a.cs]:=by simp [aHw,encs]
theorem PTr.res {f:Nat} {args:List V} {r r':V} (h:PTr P f args r) (hl:r.le r'):PTr P f args r':=by
 intro D w vs hD hg hn hr
 refine (h D w vs hD hg hn hr).mono ?_
 rintro e w' ⟨v,h1,h2,h3⟩
 exact ⟨v,h1,h2,h3.le hl⟩
theorem aVi {l:List Node} {n:Node} (h:n.kind=1) (hs:n.text≠[]):addN n l=aCp l n.text:=by simp [addN,h,hs]
theorem bL9 (hf:aZ8 P F T) (i:List Node) (t':Int) (s':List UInt8) (ks':List Node) (as':List Arg) (s:List UInt8) (hs:s≠[]) (hb:aAk (i++[.mk 1 t' s' ks' as'])+s.length≤2^29) :
 PTr P (F 109) [.lst 5 (encs (i++[.mk 1 t' s' ks' as'])),.agg (tx s).cs] (.lst 5 (encs i++[.agg [.int .i64 1,.int .i64 0,.str (s'++s),.nils,.nils]])):=by
 have hlen:=aCi (i++[.mk 1 t' s' ks' as'])
 have hne:encs (i++[.mk 1 t' s' ks' as'])≠[]:=by rw [aGv]; simp
 have hl:(encs (i++[.mk 1 t' s' ks' as'])).length=i.length+1:=by rw [aBe]; simp
 have hget:(encs (i++[.mk 1 t' s' ks' as'])).getD i.length .junk=.agg (Node.mk 1 t' s' ks' as').cs:=aJ0 i _ []
 have e1:((i.length:Nat):Int)+1-1=(i.length:Nat):=by omega
 have hp:(0:Int)<((i.length:Nat):Int)+1:=by omega
 have bl:s'.length+s.length≤2^30:=by simp [aAl,aAk,Node.bulk] at hb; omega
 have lb:i.length+2≤2^30:=by simp at hlen; omega
 have hset:(encs (i++[.mk 1 t' s' ks' as'])).set i.length (.agg [.int .i64 1,.int .i64 0,.str (s'++s),.nils,.nils])=encs i++[.agg [.int .i64 1,.int .i64 0,.str (s'++s),.nils,.nils]]:=by
  rw [aGv,← aBe i,List.set_append_right _ _ (Nat.le_refl _)]; simp
 refine ptrC [] hf (by simp) (by simp [V.imm,V.imms,aB1,aAm]) ?_
 simp only [c109,push_cast,seval,-Nat.reducePow,Node.cs,tx]
 refine aIl hne ?_
 simp only [push_cast,seval,-Nat.reducePow,hl]
 refine ⟨by omega,?_⟩
 refine aAs (fun s1=>False) ?_ (fun _ h=>h.elim)
 simp only [push_cast,seval,-Nat.reducePow,hs,hp,e1,hget,Node.cs,encs,encA]
 refine ⟨by omega,by omega,by omega,by omega,by omega,by omega,by omega,?_⟩
 rw [hset]
 have hv:=aLm (L:=upd (upd (upd (fun x=>none) 3 (some (Blk.box (T 0) [V.int IntKind.i64 1,V.int IntKind.i64 0,V.str s,V.lst 5 [],V.lst 3 []]))) 56 (some (Blk.vec (T 0) 5 (encs (i++[Node.mk 1 t' s' ks' as']))))) 56 (some (Blk.vec (T 0) 5 (encs i++[.agg [.int .i64 1,.int .i64 0,.str (s'++s),.nils,.nils]])))) (sz:=5) (aAd _ _ _) (by simp [V.imm,V.imms,aB1,aAm])
 simp only [List.length_append,aBe,List.length_singleton] at hv
 exact hv
theorem t109 (hf:aZ8 P F T) (l:List Node) (n:Node) (hb:aAk l+n.bulk≤2^29) (ht:n.kind=1→n=tx n.text):PTr P (F 109) [.lst 5 (encs l),.agg n.cs] (ln 5 (encs (addN n l))):=by
 have hlen:=aCi l
 by_cases hA:n.kind=1∧n.text≠[]∧∃ i a,l=i++[a]∧a.kind=1
 ·obtain ⟨h1,h2,i,a,rfl,h3⟩:=hA
  obtain ⟨k',t',s',ks',as'⟩:=a
  simp only [Node.kind] at h3
  subst h3
  have hn:=ht h1
  generalize n.text=s at hn h2
  subst hn
  have h0:=bL9 hf i t' s' ks' as' s h2 (by simp [tx,Node.bulk,aAk,aA0] at hb; omega)
  refine h0.res ?_
  have e:addN (tx s) (i++[Node.mk 1 t' s' ks' as'])=i++[tx (s'++s)]:=by
   rw [aVi rfl (by exact h2)]; simp [aCp,tx,Node.text]
  rw [e,aGv]
  have hln:ln 5 (encs i++[.agg (tx (s'++s)).cs])=.lst 5 (encs i++[.agg (tx (s'++s)).cs]):=by cases encs i <;> rfl
  rw [hln,aKc]
  have:∀ a:List V,V.leL (a++[.agg [.int .i64 1,.int .i64 0,.str (s'++s),.nils,.nils]]) (a++[.agg (tx (s'++s)).cs]):=by
   intro a
   induction a with
   | nil=>simp only [List.nil_append,tx,Node.cs,encs,encA,aAx,aBl,aDk,aD7,aCe,and_true]
   | cons x r ih=>simp only [List.cons_append,aAx]; exact ⟨V.le_refl _,ih⟩
  exact this _
 refine ptrC [] hf (by simp) (by simp only [aCs,aAm]) ?_
 obtain ⟨k,t,s,ks,as⟩:=n
 simp only [Node.bulk] at hb
 simp only [Node.kind,Node.text] at ht
 rcases List.eq_nil_or_concat l with rfl | ⟨i,a,rfl⟩
 ·simp only [c109,push_cast,seval,-Nat.reducePow,Node.cs,encs]
  refine aBw ?_
  simp only [push_cast,seval,-Nat.reducePow,aK1]
  refine aAs (fun s1=>s1.env 3=.ptr 3 0∧s1.env 5=.nils∧s1.L 3=some (.box (T 0) (Node.mk k t s ks as).cs)∧¬ (k=1∧s=[])) ?_ ?_
  ·by_cases hk:k=1
   ·subst hk
    by_cases hs:s=[]
    ·subst hs
     simp only [push_cast,seval,-Nat.reducePow]
     simp [view,addN,Node.kind,Node.text,encs,ln]
    ·simp only [push_cast,seval,-Nat.reducePow,hs,Node.cs]
   ·simp only [push_cast,seval,-Nat.reducePow,hk,Node.cs]
    simp [hk]
  ·rintro s1 ⟨j3,j5,jL,hno⟩
   have hadd:addN (.mk k t s ks as) []=[.mk k t s ks as]:=by
    unfold addN
    simp only [Node.kind,Node.text]
    by_cases hk:k=1
    ·have hs:s≠[]:=fun e=>hno ⟨hk,e⟩
     have h1:=ht hk
     simp only [hk,hs,aCp,if_true,if_false,List.getLast?_nil,List.nil_append]
     rw [← hk,h1,hk]; rfl
    ·simp [hk]
   simp only [Node.cs] at jL
   simp only [push_cast,seval,-Nat.reducePow,j3,j5,jL]
   refine aBw ?_
   simp only [push_cast,seval,-Nat.reducePow,j3,j5,jL,aI1]
   rw [hadd]
   simp [view,encs,ln,Node.cs,upd]
 ·rw [List.concat_eq_append] at hb hlen hA ⊢
  have hne:encs (i++[a])≠[]:=by rw [aGv]; simp
  have hl:(encs (i++[a])).length=i.length+1:=by rw [aBe]; simp
  simp only [c109,push_cast,seval,-Nat.reducePow,Node.cs]
  refine aIl hne ?_
  simp only [push_cast,seval,-Nat.reducePow,hl]
  have hget:(encs (i++[a])).getD i.length .junk=.agg a.cs:=aJ0 i a []
  obtain ⟨k',t',s',ks',as'⟩:=a
  have e1:((i.length:Nat):Int)+1-1=(i.length:Nat):=by omega
  have hp:(0:Int)<((i.length:Nat):Int)+1:=by omega
  have bl:s'.length+s.length≤2^30:=by simp [aAl,aAk,Node.bulk] at hb; omega
  have lb:i.length+2≤2^30:=by simp at hlen; omega
  refine ⟨by omega,?_⟩
  refine aAs (fun s1=>s1.env 3=.ptr 3 0∧s1.env 5=.own 56 5 0 (i.length+1)∧s1.L 3=some (.box (T 0) (Node.mk k t s ks as).cs)∧s1.L 56=some (.vec (T 0) 5 (encs (i++[.mk k' t' s' ks' as'])))∧¬ (k=1∧(s=[]∨k'=1))) ?_ ?_
  ·by_cases hk:k=1
   ·subst hk
    by_cases hs:s=[]
    ·subst hs
     simp only [push_cast,seval,-Nat.reducePow]
     have e:addN (Node.mk 1 t [] ks as) (i++[.mk k' t' s' ks' as'])=i++[.mk k' t' s' ks' as']:=by simp [addN,Node.kind,Node.text]
     have hv:=aLm (L:=upd (upd (fun x=>none) 3 (some (Blk.box (T 0) [V.int IntKind.i64 1,V.int IntKind.i64 t,V.str [],V.lst 5 (encs ks),V.lst 3 (encA as)]))) 56 (some (Blk.vec (T 0) 5 (encs (i++[Node.mk k' t' s' ks' as']))))) (sz:=5) (aAd _ _ _) (aAm _)
     rw [hl] at hv
     rw [e,hv]
     have hln:∀ z:List V,z≠[]→ln 5 z=.lst 5 z:=fun z hz=>by cases z with | nil=>exact absurd rfl hz | cons _ _=>rfl
     rw [hln _ hne]
    ·have hk':k'≠1:=fun e=>hA ⟨rfl,hs,i,_,rfl,e⟩
     simp only [push_cast,seval,-Nat.reducePow,hs,hp,e1,hget,hk',Node.cs]
     simp [hs,hk']
     omega
   ·simp only [push_cast,seval,-Nat.reducePow,hk,Node.cs]
    simp [hk]
  ·rintro s1 ⟨j3,j5,jL,jv,hno⟩
   have hadd:addN (.mk k t s ks as) (i++[.mk k' t' s' ks' as'])=i++[.mk k' t' s' ks' as']++[.mk k t s ks as]:=by
    unfold addN
    simp only [Node.kind,Node.text]
    by_cases hk:k=1
    ·have hs:s≠[]:=fun e=>hno ⟨hk,.inl e⟩
     have hk':k'≠1:=fun e=>hno ⟨hk,.inr e⟩
     have h1:=ht hk
     have hpush:aCp (i++[.mk k' t' s' ks' as']) s=i++[.mk k' t' s' ks' as']++[tx s]:=by simp [aCp,hk',tx]
     simp only [hk,hs,if_true,if_false,hpush]
     rw [← hk,h1]
    ·simp [hk]
   simp only [Node.cs] at jL
   have tk:(encs (i++[Node.mk k' t' s' ks' as'])).take (i.length+1)=encs (i++[Node.mk k' t' s' ks' as']):=List.take_of_length_le (by omega)
   simp only [push_cast,seval,-Nat.reducePow,j3,j5,jL,jv,hl,tk]
   refine ⟨by omega,?_⟩
   have hln:∀ (z:List V) (y:V),ln 5 (z++[y])=.lst 5 (z++[y]):=fun z y=>by cases z <;> rfl
   rw [hadd,aGv (i++[Node.mk k' t' s' ks' as']) (Node.mk k t s ks as),hln]
   have hv:=aLm (L:=upd (upd s1.L 56 none) (s1.nx+48) (some (Blk.vec (T 0) 5 (encs (i++[Node.mk k' t' s' ks' as'])++[V.agg (Node.mk k t s ks as).cs])))) (sz:=5) (aAd _ _ _) (by simp [V.imm,V.imms,aB1,aAm,Node.cs,aBg])
   simp only [List.length_append,hl,List.length_singleton] at hv
   exact hv
end Go.Ab
