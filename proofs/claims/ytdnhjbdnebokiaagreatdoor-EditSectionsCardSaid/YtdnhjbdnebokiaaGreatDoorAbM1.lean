/- Several texts of one kind, merged. No condition. -/
import Derived.Test.YtdnhjbdnebokiaaGreatDoorAbZ1
import Derived.Test.YtdnhjbdnebokiaaGreatDoorAbK1
import Derived.Test.YtdnhjbdnebokiaaGreatDoorAbZ4
import Derived.Test.YtdnhjbdnebokiaaGreatDoorAbE5
import Derived.Test.YtdnhjbdnebokiaaGreatDoorAbR7
import Derived.Test.YtdnhjbdnebokiaaGreatDoorAbK4
set_option linter.unusedSimpArgs false
set_option linter.unusedVariables false
namespace Go.Ab
theorem aOu (l:List (List UInt8)):V.imms (l.map V.str)=true:=aE0 _ _ fun t=>rfl
theorem bCc {s:List UInt8} {k:Nat} {t:List UInt8} (h:aQk s=some (k,t)):t≠[]:=by
 unfold aQk at h
 split at h
 ·cases h
 ·split at h
  ·cases h
  ·rename_i h2
   simp only [Option.some.injEq,Prod.mk.injEq] at h
   obtain ⟨_,rfl⟩:=h
   exact h2
theorem bDs {s:List UInt8} {p:List Bool} {i:Nat} {x:Sec} (h:x∈aEi s p i):x.title≠[]:=by
 unfold aEi at h
 split at h
 ·split at h
  ·rename_i k t e
   rw [List.mem_singleton.1 h]
   exact bCc e
  ·cases h
 ·cases h
theorem aYz {s:List UInt8} {p:List Bool} {x:Sec}:∀ (n i:Nat),x∈rawF s p n i→x.title≠[]
 | 0,i,h=>by cases h
 | n+1,i,h=>by
   unfold rawF at h
   split at h
   ·rcases List.mem_append.1 h with h | h
    ·exact bDs h
    ·exact aYz n _ h
   ·cases h
theorem bEq {x:Sec}:∀ (l:List Sec),x∈toF l→∃ y,y∈l∧y.title=x.title
 | [],h=>by cases h
 | y::r,h=>by
   rcases List.mem_cons.1 h with rfl | h
   ·exact ⟨y,by simp,rfl⟩
   ·obtain ⟨z,h1,h2⟩:=bEq r h
    exact ⟨z,List.mem_cons_of_mem _ h1,h2⟩
theorem bHh {s:List UInt8} {x:Sec} (h:x∈aE9 s):x.title≠[]:=by
 obtain ⟨y,h1,h2⟩:=bEq _ h
 rw [← h2]
 exact aYz _ _ h1
end Go.Ab
namespace Go.Ab
structure Un where
 title:List UInt8
 nth:Nat
 text:List UInt8
def Un.v (u:Un):V:=.agg [.str u.title,.int .i64 u.nth,.str u.text]
def cntT (l:List Sec) (t:List UInt8):Nat:=(l.filter fun y=>decide (y.title=t)).length
def nxF (s:List UInt8):List Sec→Nat
 | []=>s.length
 | y::_=>y.fr
def uGo (s:List UInt8) (p:List Sec):List Sec→List Un
 | []=>[]
 | x::r=>⟨x.title,cntT p x.title,(s.take (nxF s r)).drop x.fr⟩::uGo s (p++[x]) r
def aAb (s:List UInt8):List Un:=⟨[],0,aM7 s⟩::uGo s [] (aE9 s)
def anyT (l:List Un):Bool:=l.any fun u=>!decide (u.text=[])
def aFe:List Un→List UInt8
 | []=>[]
 | u::r=>u.text++((if anyT r=true∧u.text≠[]∧u.text.getLast?≠some 10 then [10] else [])++aFe r)
theorem aSn:∀ {l:List Sec},l.Pairwise (fun x y=>x.bd≤y.fr)→(toF l).Pairwise (fun x y=>x.bd≤y.fr)
 | [],_=>by simp [toF]
 | x::l,h=>by
   rw [List.pairwise_cons] at h
   simp only [toF]
   rw [List.pairwise_cons]
   refine ⟨fun y hy=>?_,aSn h.2⟩
   obtain ⟨a,y0,r,rfl,rfl⟩:=aQv hy
   exact h.1 y0 (by simp)
theorem aNm (s:List UInt8):(aE9 s).Pairwise (fun x y=>x.bd≤y.fr):=aSn (aLv s).2
theorem aPk {s:List UInt8} {n:Nat} (h:LSt s n) (h0:0<n) (hn:n≤s.length):(s.take n).getLast?=some 10:=by
 rcases h with h | ⟨_,h⟩
 ·omega
 ·rw [List.getLast?_eq_getElem?,List.length_take,show min n s.length=n by omega,List.getElem?_take,if_pos (by omega),h]
theorem bIr {s:List UInt8}:∀ {l:List Sec},(∀ x,x∈l→SecOk s x)→nxF s l≤s.length
 | [],_=>Nat.le_refl _
 | y::_,h=>by have h1:=h y (by simp); have:=h1.bd; have:=h1.le; have:=h1.to; simp only [nxF]; omega
theorem aO7 (s:List UInt8):∀ (l p:List Sec),(∀ x,x∈l→SecOk s x)→l.Pairwise (fun x y=>x.bd≤y.fr)→aFe (uGo s p l)=s.drop (nxF s l)
 | [],p,_,_=>by simp [uGo,aFe,nxF]
 | x::r,p,h,hp=>by
   rw [List.pairwise_cons] at hp
   have h1:=h x (by simp)
   have hn:=bIr (s:=s) (l:=r) (fun y hy=>h y (by simp [hy]))
   have hlt:x.fr<nxF s r:=by
    have:=h1.bd; have:=h1.le; have:=h1.to
    cases r with
    | nil=>simp only [nxF]; omega
    | cons y r=>have:=hp.1 y (by simp); simp only [nxF]; omega
   rw [uGo,aFe,aO7 s r _ (fun y hy=>h y (by simp [hy])) hp.2]
   have hsep:¬ (anyT (uGo s (p++[x]) r)=true∧(s.take (nxF s r)).drop x.fr≠[]∧((s.take (nxF s r)).drop x.fr).getLast?≠some 10):=by
    intro ⟨ha,hb,hc⟩
    cases r with
    | nil=>simp [uGo,anyT] at ha
    | cons y r =>
      apply hc
      have hl:=aPk (h y (by simp)).ls (by simp only [nxF] at hlt; omega) (by simpa only [nxF] using hn)
      simp only [nxF] at hlt hn hl ⊢
      rw [List.getLast?_drop,if_neg (by rw [List.length_take]; omega),hl]
   rw [if_neg hsep]
   simp only [List.nil_append]
   show (s.take (nxF s r)).drop x.fr++s.drop (nxF s r)=s.drop x.fr
   rw [List.drop_take]
   have:s.drop (nxF s r)=(s.drop x.fr).drop (nxF s r-x.fr):=by rw [List.drop_drop]; congr 1; omega
   rw [this,List.take_append_drop]
theorem aKy (s:List UInt8):aFe (aAb s)=s:=by
 have hg:=aO7 s (aE9 s) [] (aMi s) (aNm s)
 rw [aAb,aFe,hg]
 cases hl:aE9 s with
 | nil=>simp [aM7,hl,nxF,uGo,anyT]
 | cons x r =>
   have h1:=aMi s x (by rw [hl]; simp)
   have:=h1.bd; have:=h1.le; have:=h1.to
   have hlead:aM7 s=s.take x.fr:=by simp [aM7,hl]
   simp only [hlead,nxF]
   have hsep:¬ (anyT (uGo s [] (x::r))=true∧s.take x.fr≠[]∧(s.take x.fr).getLast?≠some 10):=by
    intro ⟨_,hb,hc⟩
    have h0:0<x.fr:=by
     rcases Nat.eq_zero_or_pos x.fr with h | h
     ·rw [h] at hb; simp at hb
     ·exact h
    exact hc (aPk h1.ls h0 (by omega))
   rw [if_neg hsep,List.nil_append,List.take_append_drop]
end Go.Ab
namespace Go.Ab
abbrev Un.nm (u:Un):List UInt8×Nat:=(u.title,u.nth)
theorem aM3 (p:List Sec) (x:Sec) (t:List UInt8):cntT (p++[x]) t=cntT p t+if x.title=t then 1 else 0:=by
 unfold cntT
 rw [List.filter_append,List.length_append]
 by_cases h:x.title=t <;> simp [h]
theorem aXk (s:List UInt8):∀ (l p:List Sec) (u:Un),u∈uGo s p l→cntT p u.title≤u.nth∧∃ x,x∈l∧x.title=u.title
 | [],_,_,h=>by simp [uGo] at h
 | x::r,p,u,h=>by
   simp only [uGo,List.mem_cons] at h
   rcases h with rfl | h
   ·exact ⟨Nat.le_refl _,x,by simp,rfl⟩
   ·obtain ⟨h1,y,h2,h3⟩:=aXk s r _ u h
    rw [aM3] at h1
    exact ⟨by omega,y,by simp [h2],h3⟩
theorem aPl (s:List UInt8):∀ (l p:List Sec),(uGo s p l).Pairwise (fun u v=>u.nm≠v.nm)
 | [],_=>by simp [uGo]
 | x::r,p=>by
   rw [uGo,List.pairwise_cons]
   refine ⟨fun v hv h=>?_,aPl s r _⟩
   obtain ⟨h1,-⟩:=aXk s r _ v hv
   simp only [Un.nm,Prod.mk.injEq] at h
   obtain ⟨h2,h3⟩:=h
   rw [aM3,if_pos h2,← h2] at h1
   omega
def atU (l:List Un) (n:List UInt8×Nat):Nat:=l.findIdx fun u=>decide (u.nm=n)
def hasU (l:List Un) (n:List UInt8×Nat):Bool:=l.any fun u=>decide (u.nm=n)
def ordG (out:List Un) (prev:List UInt8×Nat):List Un→List Un
 | []=>out
 | u::r=>ordG (if hasU out u.nm=true then out else out.take (atU out prev+1)++u::out.drop (atU out prev+1)) u.nm r
def aCp (o t:List Un):List Un:=ordG o ([],0) t
def txtU (l:List Un) (n:List UInt8×Nat):Option (List UInt8):=(l.find? fun u=>decide (u.nm=n)).map Un.text
def aB4 (b o t:Option (List UInt8)):Option (List UInt8)×Bool :=
 if o=t then (o,false) else if o=b then (t,false) else if t=b then (o,false) else if o.isSome then (o,true) else (t,true)
def aIq (b o t:List Un) (l:List Un):List Un:=l.filterMap fun u=>((aB4 (txtU b u.nm) (txtU o u.nm) (txtU t u.nm)).1).map fun x=>⟨u.title,u.nth,x⟩
def aE5 (b o t:List Un) (l:List Un):List (List UInt8):=(l.filter fun u=>(aB4 (txtU b u.nm) (txtU o u.nm) (txtU t u.nm)).2).map Un.title
def aGe (b o t:List UInt8):List UInt8×List (List UInt8) :=
 if o=b∨o=t then (t,[]) else if t=b then (o,[]) else
  let l:=aCp (aAb o) (aAb t)
  (aFe (aIq (aAb b) (aAb o) (aAb t) l),aE5 (aAb b) (aAb o) (aAb t) l)
end Go.Ab
namespace Go.Ab
theorem aEs (s:List UInt8):(aAb s).Pairwise (fun u v=>u.nm≠v.nm):=by
 rw [aAb,List.pairwise_cons]
 refine ⟨fun v hv h=>?_,aPl s _ _⟩
 obtain ⟨-,x,hx,ht⟩:=aXk s _ _ v hv
 simp only [Un.nm,Prod.mk.injEq] at h
 exact bHh hx (ht.trans h.1.symm)
def insU (l:List Un) (i:Nat) (u:Un):List Un:=l.take i++u::l.drop i
theorem aR9 (l:List Un) (i:Nat) (u:Un) (n:List UInt8×Nat):hasU (insU l i u) n=(decide (u.nm=n)||hasU l n):=by
 unfold hasU insU
 rw [List.any_append,List.any_cons]
 have h:(l.any fun u=>decide (u.nm=n))=(((l.take i).any fun u=>decide (u.nm=n))||((l.drop i).any fun u=>decide (u.nm=n))):=by
  rw [← List.any_append,List.take_append_drop]
 rw [h]
 cases (l.take i).any fun u=>decide (u.nm=n) <;> simp
theorem aY9 (s:List UInt8):hasU (aAb s) ([],0)=true:=by simp [aAb,hasU,Un.nm]
theorem aSf:∀ (r out:List Un) (prev:List UInt8×Nat),(∀ u,u∈r→hasU out u.nm=true)→ordG out prev r=out
 | [],_,_,_=>rfl
 | u::r,out,prev,h=>by
   rw [ordG,if_pos (h u (by simp))]
   exact aSf r out _ (fun v hv=>h v (by simp [hv]))
end Go.Ab
namespace Go.Ab
def aL6 (b o t:List Un) (l:List (List UInt8×Nat)):List Un:=l.filterMap fun n=>((aB4 (txtU b n) (txtU o n) (txtU t n)).1).map fun x=>⟨n.1,n.2,x⟩
theorem aIu (b o t l:List Un):aIq b o t l=aL6 b o t (l.map Un.nm):=by
 unfold aIq aL6
 rw [List.filterMap_map]
 rfl
def aW9 (b o t:List Un) (l:List (List UInt8×Nat)):List (List UInt8):=(l.filter fun n=>(aB4 (txtU b n) (txtU o n) (txtU t n)).2).map Prod.fst
theorem aXn (b o t l:List Un):aE5 b o t l=aW9 b o t (l.map Un.nm):=by
 unfold aE5 aW9
 rw [List.filter_map,List.map_map]
 rfl
theorem aS0 {l:List Un} {n:List UInt8×Nat}:hasU l n=true↔n∈l.map Un.nm:=by
 unfold hasU
 rw [List.any_eq_true,List.mem_map]
 constructor
 ·rintro ⟨u,hu,h⟩; exact ⟨u,hu,by simpa using h⟩
 ·rintro ⟨u,hu,h⟩; exact ⟨u,hu,by simpa using h⟩
theorem aU4 {o t:List Un} (h:o.map Un.nm=t.map Un.nm):aCp o t=o:=aSf _ _ _ fun u hu=>by
 rw [aS0,h]
 exact List.mem_map_of_mem hu
end Go.Ab
namespace Go.Ab
end Go.Ab
namespace Go.Ab
def sumT (l:List Un):Nat:=(l.map fun u=>u.text.length).sum
theorem aG6:∀ l:List Un,sumT l≤(aFe l).length∧(aFe l).length≤sumT l+l.length
 | []=>by simp [aFe,sumT]
 | u::r=>by
   obtain ⟨h1,h2⟩:=aG6 r
   unfold sumT at h1 h2 ⊢
   rw [aFe]
   simp only [List.length_append,List.map_cons,List.sum_cons,List.length_cons]
   split <;> simp only [List.length_cons,List.length_nil] <;> omega
theorem aJg (s:List UInt8):sumT (aAb s)≤s.length:=by
 have h:=(aG6 (aAb s)).1
 rwa [aKy] at h
def lenO (x:Option (List UInt8)):Nat:=(x.getD []).length
theorem aJw (u:Un) (l:List Un) (n:List UInt8×Nat):txtU (u::l) n=if u.nm=n then some u.text else txtU l n:=by
 unfold txtU
 rw [List.find?_cons]
 by_cases h:u.nm=n
 ·simp [h]
 ·simp [h]
theorem aMn (f g:List UInt8×Nat→Nat):∀ N:List (List UInt8×Nat),(N.map fun n=>f n+g n).sum=(N.map f).sum+(N.map g).sum
 | []=>rfl
 | n::N=>by simp only [List.map_cons,List.sum_cons,aMn f g N]; omega
theorem bEw (f g:List UInt8×Nat→Nat) (h:∀ n,f n≤g n):∀ N:List (List UInt8×Nat),(N.map f).sum≤(N.map g).sum
 | []=>Nat.le_refl _
 | n::N=>by have:=bEw f g h N; have:=h n; simp only [List.map_cons,List.sum_cons]; omega
theorem aZm (m:List UInt8×Nat) (k:Nat):∀ {N:List (List UInt8×Nat)},N.Pairwise (·≠·)→(N.map fun n=>if m=n then k else 0).sum≤k∧(m∉N→(N.map fun n=>if m=n then k else 0).sum=0)
 | [],_=>by simp
 | n::N,h=>by
   rw [List.pairwise_cons] at h
   obtain ⟨h1,h2⟩:=aZm m k h.2
   simp only [List.map_cons,List.sum_cons,List.mem_cons,not_or]
   by_cases e:m=n
   ·subst e
    have h3:=h2 (fun hm=>h.1 m hm rfl)
    simp only [if_true]
    refine ⟨by omega,fun hh=>absurd trivial hh.1⟩
   ·simp only [e,if_false]
    exact ⟨by omega,fun hh=>by have:=h2 hh.2; omega⟩
theorem aL4 {N:List (List UInt8×Nat)} (h:N.Pairwise (·≠·)):∀ l:List Un,(N.map fun n=>lenO (txtU l n)).sum≤sumT l
 | []=>by
   have h0:∀ N:List (List UInt8×Nat),(N.map fun n=>lenO (txtU [] n)).sum=0:=by
    intro N
    induction N with
    | nil=>rfl
    | cons n N ih=>simp only [List.map_cons,List.sum_cons,ih]; rfl
   rw [h0]; exact Nat.zero_le _
 | u::l=>by
   have ih:=aL4 h l
   have h1:=(aZm u.nm u.text.length h).1
   have h2:(N.map fun n=>lenO (txtU (u::l) n)).sum≤(N.map fun n=>(if u.nm=n then u.text.length else 0)+lenO (txtU l n)).sum:=by
    apply bEw (fun n=>lenO (txtU (u::l) n)) (fun n=>(if u.nm=n then u.text.length else 0)+lenO (txtU l n))
    intro n
    simp only [aJw]
    by_cases e:u.nm=n
    ·simp only [e,if_true,lenO,Option.getD_some]; omega
    ·simp only [e,if_false]; omega
   rw [aMn (fun n=>if u.nm=n then u.text.length else 0) (fun n=>lenO (txtU l n))] at h2
   unfold sumT at ih ⊢
   simp only [List.map_cons,List.sum_cons]
   omega
theorem aT2 (b o t:Option (List UInt8)):lenO (aB4 b o t).1≤lenO b+(lenO o+lenO t):=by
 unfold aB4
 split
 ·simp only []; omega
 ·split
  ·simp only []; omega
  ·split
   ·simp only []; omega
   ·split <;> simp only [] <;> omega
theorem aHi (b o t:List Un):∀ N:List (List UInt8×Nat),sumT (aL6 b o t N)≤(N.map fun n=>lenO (txtU b n)+(lenO (txtU o n)+lenO (txtU t n))).sum∧(aL6 b o t N).length≤N.length
 | []=>by simp [aL6,sumT]
 | n::N=>by
   obtain ⟨h1,h2⟩:=aHi b o t N
   have h3:=aT2 (txtU b n) (txtU o n) (txtU t n)
   unfold sumT aL6 at h1 ⊢
   unfold aL6 at h2
   rw [List.filterMap_cons]
   cases hc:(aB4 (txtU b n) (txtU o n) (txtU t n)).1 with
   | none=>simp only [Option.map_none,List.map_cons,List.sum_cons,List.length_cons]; exact ⟨by omega,by omega⟩
   | some x =>
     rw [hc] at h3
     simp only [lenO,Option.getD_some] at h3
     simp only [Option.map_some,List.map_cons,List.sum_cons,List.length_cons]
     unfold lenO at h1 ⊢
     exact ⟨by omega,by omega⟩
end Go.Ab
namespace Go.Ab
theorem aY6 {l:List Un} {i:Nat} {u:Un} (h:(l.map Un.nm).Pairwise (·≠·)) (hu:hasU l u.nm≠true):((insU l i u).map Un.nm).Pairwise (·≠·)∧(insU l i u).length=l.length+1:=by
 have hn:u.nm∉l.map Un.nm:=fun hm=>hu (aS0.2 hm)
 constructor
 ·have hp:(insU l i u).Perm (u::l):=by
   unfold insU
   exact List.perm_middle.trans (List.Perm.cons _ (by rw [List.take_append_drop]))
  have h2:((u::l).map Un.nm).Nodup:=by
   rw [List.map_cons,List.nodup_cons]
   exact ⟨hn,h⟩
  exact (hp.map Un.nm).nodup_iff.2 h2
 ·unfold insU
  rw [List.length_append,List.length_cons,List.length_take,List.length_drop]
  omega
theorem aEk:∀ (r out:List Un) (prev:List UInt8×Nat),(out.map Un.nm).Pairwise (·≠·)→((ordG out prev r).map Un.nm).Pairwise (·≠·)∧(ordG out prev r).length≤out.length+r.length
 | [],out,_,h=>⟨h,Nat.le_refl _⟩
 | u::r,out,prev,h=>by
   rw [ordG]
   by_cases hh:hasU out u.nm=true
   ·rw [if_pos hh]
    have:=aEk r out u.nm h
    exact ⟨this.1,by have:=this.2; simp only [List.length_cons]; omega⟩
   ·rw [if_neg hh]
    have h1:=aY6 (i:=atU out prev+1) h hh
    have h2:=aEk r (insU out (atU out prev+1) u) u.nm h1.1
    exact ⟨h2.1,by have:=h2.2; rw [h1.2] at this; simp only [List.length_cons]; unfold insU at this; omega⟩
theorem aW6 (s:List UInt8):∀ (l p:List Sec),(uGo s p l).length=l.length
 | [],_=>rfl
 | x::r,p=>by rw [uGo,List.length_cons,List.length_cons,aW6 s r]
theorem aEg (s:List UInt8):(aAb s).length≤s.length+1:=by
 have:=aSq s
 rw [aAb,List.length_cons,aW6]
 omega
theorem bAf (b x y:List UInt8):(aGe b x y).1.length≤b.length+2*x.length+2*y.length+2:=by
 unfold aGe
 split
 ·simp only []; omega
 ·split
  ·simp only []; omega
  ·simp only [aIu]
   have h1:=aEk (aAb y) (aAb x) ([],0) (List.pairwise_map.2 (aEs x))
   have h2:=aHi (aAb b) (aAb x) (aAb y) ((aCp (aAb x) (aAb y)).map Un.nm)
   have h3:=(aG6 (aL6 (aAb b) (aAb x) (aAb y) ((aCp (aAb x) (aAb y)).map Un.nm))).2
   have e:=h2.1
   rw [aMn (fun n=>lenO (txtU (aAb b) n)) (fun n=>lenO (txtU (aAb x) n)+lenO (txtU (aAb y) n)),aMn (fun n=>lenO (txtU (aAb x) n)) (fun n=>lenO (txtU (aAb y) n))] at e
   have s1:=aL4 h1.1 (aAb b)
   have s2:=aL4 h1.1 (aAb x)
   have s3:=aL4 h1.1 (aAb y)
   have t1:=aJg b
   have t2:=aJg x
   have t3:=aJg y
   have l1:=aEg x
   have l2:=aEg y
   have l3:=h1.2
   have l4:=h2.2
   rw [List.length_map] at l4
   unfold aCp at *
   omega
end Go.Ab
namespace Go.Ab
def c255 (F T:Nat→Nat):C :=
 .n [.mov (some 2) (.s [])] <|
 .n [.mov (some 3) (.i 0)] <|
 .seq (.n [.m 9 0,.ll 10 9,.mov (some 11) (.i 0)] <|
 .block 0 <|
 .loop <|
 .n [.b 12 .lss 11 10] <|
 .seq (.cond (.t 12)
 (.skip)
 (.exit 0)) <|
 .seq (.block 1 <|
 .n [.m 13 11,.ia 14 3 9 11,.load (some 15) false 3 true (.t 14),.alloc 5 (T 28) [(.str []),(.int .i64 0),(.str [])],.m 4 13,.store 3 (.t 5) (.t 15)] <|
 .n [.f 16 2 5,.l 17 16,.bin (some 18) .neq (.t 17) (.s [])] <|
 .cond (.t 18)
 (.o [.m 19 4,.m 3 19])
 (.skip)) <|
 .o [.bi 20 .add 11 1,.m 11 20]) <|
 .seq (.gha (.bclose 6 (T 3)) <| .o [.alloc 6 (T 2) [.nilp,.nils]]) <|
 .seq (.n [.m 21 0,.ll 22 21,.mov (some 23) (.i 0)] <|
 .block 2 <|
 .loop <|
 .n [.b 24 .lss 23 22] <|
 .seq (.cond (.t 24)
 (.skip)
 (.exit 2)) <|
 .seq (.block 3 <|
 .n [.m 25 23,.ia 26 3 21 23,.load (some 27) false 3 true (.t 26),.alloc 8 (T 28) [(.str []),(.int .i64 0),(.str [])],.m 7 25,.store 3 (.t 8) (.t 27)] <|
 .n [.f 28 2 8,.l 29 28,.e 30 48 (F 27) [.t 6,.t 29]] <|
 .seq (.ops false [⟨none,[.m 31 7,.m 32 3,.b 33 .lss 31 32,.m 34 33]⟩,
 ⟨some (34,true),[.f 35 2 8,.l 36 35,.bin (some 37) .neq (.t 36) (.s [])]⟩,
 ⟨none,[.pf 38 34 37,.m 39 38]⟩,
 ⟨some (39,true),[.f 40 2 8,.l 41 40,.c 42 (F 142) [.t 41,.s [10]],.un (some 43) .not (.t 42)]⟩,
 ⟨none,[.pf 44 39 43]⟩]) <|
 .cond (.t 44)
 (.o [.e 45 48 (F 33) [.t 6,(.k (.int .u8 10))]])
 (.skip)) <|
 .o [.bi 46 .add 23 1,.m 23 46]) <|
 .n [.e 47 48 (F 23) [.t 6],.m 2 47] <|
 .ret
abbrev bK2 (P:Program) (F T:Nat→Nat):Prop:=Fn P (F 255) 48 [(2,none)] (c255 F T)
def c257 (F T:Nat→Nat):C :=
 .n [.alloc 6 (T 27) [(.str []),.nils],.mov (some 7) (.i 0)] <|
 .n [.alloc 8 (T 29) [.nils,.nils,.nils]] <|
 .seq (.n [.m 23 0,.m 24 1,.m 25 2,.mkl (some 26) 1 [.t 23,.t 24,.t 25],.ll 27 26,.mov (some 28) (.i 0)] <|
 .block 0 <|
 .loop <|
 .n [.b 29 .lss 28 27] <|
 .seq (.cond (.t 29)
 (.skip)
 (.exit 0)) <|
 .seq (.block 1 <|
 .n [.m 30 28,.ia 31 1 26 28,.l 32 31,.m 9 30,.m 10 32] <|
 .n [.m 34 10,.c 35 (F 258) [.t 34],.m 33 35,.x 36 0 33,.x 37 1 33,.m 11 36,.m 12 37] <|
 .seq (.n [.m 38 12,.bi 39 .neq 38 0] <|
 .cond (.t 39)
 (.n [.build (some 40) [(.str []),.nils] [],.m 41 12,.store 2 (.t 6) (.t 40),.m 7 41] <|
 .ret)
 (.skip)) <|
 .o [.m 42 9,.m 43 11,.iadrA (some 44) 3 1 (.t 8) (.t 42),.store 1 (.t 44) (.t 43)]) <|
 .o [.bi 45 .add 28 1,.m 28 45]) <|
 .seq (.seq (.ops false [⟨none,[.m 46 1,.m 47 0,.b 48 .eql 46 47,.m 49 48]⟩,
 ⟨some (49,false),[.m 50 1,.m 51 2,.b 52 .eql 50 51]⟩,
 ⟨none,[.pt 53 49 52]⟩]) <|
 .cond (.t 53)
 (.n [.m 54 2,.build (some 55) [(.str []),.nils] [(0,1,(.t 54))],.store 2 (.t 6) (.t 55),.mov (some 7) (.i 0)] <|
 .ret)
 (.skip)) <|
 .seq (.n [.m 56 2,.m 57 0,.b 58 .eql 56 57] <|
 .cond (.t 58)
 (.n [.m 59 1,.build (some 60) [(.str []),.nils] [(0,1,(.t 59))],.store 2 (.t 6) (.t 60),.mov (some 7) (.i 0)] <|
 .ret)
 (.skip)) <|
 .seq (.gh (.frzb 8) <| .p [.iadrA (some 61) 3 1 (.t 8) (.i 0),.load (some 62) true 1 false (.t 61),.e 63 122 (F 259) [.t 62],.iadrA (some 64) 3 1 (.t 8) (.i 1),.load (some 65) true 1 false (.t 64),.e 66 122 (F 259) [.t 65],.iadrA (some 67) 3 1 (.t 8) (.i 2),.load (some 68) true 1 false (.t 67),.e 69 122 (F 259) [.t 68],.m 13 63,.m 14 66,.m 15 69]) <|
 .n [.alloc 16 (T 27) [(.str []),.nils]] <|
 .seq (.gha (.own 17 (T 28) 3) <| .o [.mov (some 17) (.k .nils)]) <|
 .seq (.n [.iadrA (some 70) 3 1 (.t 8) (.i 1),.l 71 70,.iadrA (some 72) 3 1 (.t 8) (.i 2),.l 73 72,.c 74 (F 260) [.t 71,.t 73],.ll 75 74,.mov (some 76) (.i 0)] <|
 .block 2 <|
 .loop <|
 .n [.b 77 .lss 76 75] <|
 .seq (.cond (.t 77)
 (.skip)
 (.exit 2)) <|
 .seq (.block 3 <|
 .n [.ia 78 3 74 76,.load (some 79) false 3 true (.t 78),.alloc 19 (T 28) [(.str []),(.int .i64 0),(.str [])],.store 3 (.t 19) (.t 79)] <|
 .n [.load (some 80) false 3 true (.t 19),.c 81 (F 261) [.t 80],.alloc 20 (T 30) [(.str []),(.int .i64 0)],.store 2 (.t 20) (.t 81)] <|
 .seq (.p [.m 83 13,.load (some 84) false 2 true (.t 20),.mget (some 85) true [1,0] (.agg [(.bool false),(.str [])]) false (.t 83) (.t 84),.m 86 14,.load (some 87) false 2 true (.t 20),.mget (some 88) true [1,0] (.agg [(.bool false),(.str [])]) false (.t 86) (.t 87),.m 89 15,.load (some 90) false 2 true (.t 20),.mget (some 91) true [1,0] (.agg [(.bool false),(.str [])]) false (.t 89) (.t 90),.c 92 (F 262) [.t 85,.t 88,.t 91],.m 82 92,.x 93 0 82,.x 94 1 82,.alloc 21 (T 31) [(.bool false),(.str [])],.store 2 (.t 21) (.t 93),.m 22 94]) <|
 .seq (.n [.m 95 22] <|
 .cond (.t 95)
 (.o [.f 96 1 16,.l 97 96,.f 98 0 19,.l 99 98,.mkl (some 100) 1 [.t 99],.app 101 (T 21) 1 (.t 97) (.t 100),.f 102 1 16,.store 1 (.t 102) (.t 101)])
 (.skip)) <|
 .n [.f 103 0 21,.l 104 103] <|
 .cond (.t 104)
 (.n [.f 105 1 21,.l 106 105,.f 107 2 19,.store 1 (.t 107) (.t 106)] <|
 .o [.m 108 17,.load (some 109) false 3 true (.t 19),.mkl (some 110) 3 [.t 109],.app 111 (T 28) 3 (.t 108) (.t 110),.m 17 111])
 (.skip)) <|
 .o [.bi 112 .add 76 1,.m 76 112]) <|
 .n [.m 113 17,.call (some 114) false (F 255) [.t 113],.f 115 0 16,.store 1 (.t 115) (.t 114)] <|
 .seq (.n [.f 116 0 16,.l 117 116,.ls 118 117,.bi 119 .gtr 118 8192] <|
 .cond (.t 119)
 (.n [.build (some 120) [(.str []),.nils] [],.store 2 (.t 6) (.t 120),.mov (some 7) (.i 3)] <|
 .ret)
 (.skip)) <|
 .n [.load (some 121) false 2 true (.t 16),.store 2 (.t 6) (.t 121),.mov (some 7) (.i 0)] <|
 .ret
abbrev bIw (P:Program) (F T:Nat→Nat):Prop:=Fn P (F 257) 122 [(6,(some (2,true))),(7,none)] (c257 F T)
def c258 (F T:Nat→Nat):C :=
 .n [.mov (some 2) (.k .nils),.mov (some 3) (.i 0)] <|
 .n [.m 14 0,.c 15 (F 124) [.t 14],.m 13 15,.x 16 0 13,.x 17 1 13,.m 4 16,.m 5 17] <|
 .seq (.n [.m 18 5,.bi 19 .neq 18 0] <|
 .cond (.t 19)
 (.n [.m 20 5,.mov (some 2) (.k .nils),.m 3 20] <|
 .ret)
 (.skip)) <|
 .n [.m 22 0,.c 23 (F 131) [.t 22],.m 21 23,.x 24 0 21,.x 25 1 21,.m 6 24,.m 7 25] <|
 .n [.m 26 6,.build (some 27) [(.str []),(.int .i64 0),(.str [])] [(2,1,(.t 26))],.mkv 28 (T 28) 3 [.t 27],.m 8 28] <|
 .n [.mkm 29,.m 9 29] <|
 .seq (.n [.m 30 4,.ll 31 30,.mov (some 32) (.i 0)] <|
 .block 0 <|
 .loop <|
 .n [.b 33 .lss 32 31] <|
 .seq (.cond (.t 33)
 (.skip)
 (.exit 0)) <|
 .seq (.block 1 <|
 .n [.m 34 32,.ia 35 5 30 32,.load (some 36) false 5 true (.t 35),.alloc 11 (T 14) [(.int .i64 0),(.str []),(.int .i64 0),(.int .i64 0),(.int .i64 0)],.m 10 34,.store 5 (.t 11) (.t 36)] <|
 .n [.m 37 0,.ls 38 37,.m 12 38] <|
 .seq (.n [.m 39 10,.bi 40 .add 39 1,.m 41 4,.ll 42 41,.b 43 .lss 40 42] <|
 .cond (.t 43)
 (.o [.m 44 4,.m 45 10,.bi 46 .add 45 1,.ia 47 5 44 46,.f 48 2 47,.l 49 48,.m 12 49])
 (.skip)) <|
 .seq (.p [.m 50 8,.f 51 1 11,.l 52 51,.m 53 9,.f 54 1 11,.l 55 54,.mget (some 56) false [1] (.int .i64 0) false (.t 53) (.t 55),.m 57 0,.f 58 2 11,.l 59 58,.m 60 12,.slcS (some 61) (.t 57) (some (.t 59)) (some (.t 60)),.build (some 62) [(.str []),(.int .i64 0),(.str [])] [(0,1,(.t 52)),(1,1,(.t 56)),(2,1,(.t 61))],.mkl (some 63) 3 [.t 62],.app 64 (T 28) 3 (.t 50) (.t 63),.m 8 64]) <|
 .o [.m 65 9,.f 66 1 11,.l 67 66,.mget (some 68) false [1] (.int .i64 0) false (.t 65) (.t 67),.bi 69 .add 68 1,.mput false [1] (.t 65) (.t 67) (.t 69)]) <|
 .o [.bi 70 .add 32 1,.m 32 70]) <|
 .n [.m 71 8,.m 2 71,.mov (some 3) (.i 0)] <|
 .ret
abbrev bFy (P:Program) (F T:Nat→Nat):Prop:=Fn P (F 258) 72 [(2,none),(3,none)] (c258 F T)
def c259 (F T:Nat→Nat):C :=
 .n [.mov (some 2) (.k .nilm)] <|
 .n [.mkm 6,.m 3 6] <|
 .seq (.n [.m 7 0,.ll 8 7,.mov (some 9) (.i 0)] <|
 .block 0 <|
 .loop <|
 .n [.b 10 .lss 9 8] <|
 .seq (.cond (.t 10)
 (.skip)
 (.exit 0)) <|
 .seq (.block 1 <|
 .n [.ia 11 3 7 9,.load (some 12) false 3 true (.t 11),.alloc 5 (T 28) [(.str []),(.int .i64 0),(.str [])],.store 3 (.t 5) (.t 12)] <|
 .p [.m 13 3,.load (some 14) false 3 true (.t 5),.c 15 (F 261) [.t 14],.f 16 2 5,.l 17 16,.build (some 18) [(.bool false),(.str [])] [(0,1,(.k (.bool true))),(1,1,(.t 17))],.mput true [1,0] (.t 13) (.t 15) (.t 18)]) <|
 .o [.bi 19 .add 9 1,.m 9 19]) <|
 .n [.m 20 3,.m 2 20] <|
 .ret
abbrev bFh (P:Program) (F T:Nat→Nat):Prop:=Fn P (F 259) 21 [(2,none)] (c259 F T)
def c260 (F T:Nat→Nat):C :=
 .n [.mov (some 4) (.k .nils)] <|
 .n [.m 9 0,.e 10 39 (F 263) [.t 9],.alloc 5 (T 32) [.nils],.store 1 (.t 5) (.t 10)] <|
 .n [.clos (some 11) (F 264) [.t 5],.m 6 11] <|
 .seq (.n [.m 12 1,.ll 13 12,.mov (some 14) (.i 0)] <|
 .block 0 <|
 .loop <|
 .n [.b 15 .lss 14 13] <|
 .seq (.cond (.t 15)
 (.skip)
 (.exit 0)) <|
 .seq (.block 1 <|
 .n [.m 16 14,.ia 17 3 12 14,.load (some 18) false 3 true (.t 17),.alloc 8 (T 28) [(.str []),(.int .i64 0),(.str [])],.m 7 16,.store 3 (.t 8) (.t 18)] <|
 .n [.m 19 6,.load (some 20) false 3 true (.t 8),.c 21 (F 261) [.t 20],.pcall (some 22) (.t 19) [.t 21],.bi 23 .lss 22 0] <|
 .cond (.t 23)
 (.p [.l 24 5,.m 25 6,.m 26 1,.m 27 7,.bi 28 .sub 27 1,.ia 29 3 26 28,.load (some 30) false 3 true (.t 29),.c 31 (F 261) [.t 30],.pcall (some 32) (.t 25) [.t 31],.bi 33 .add 32 1,.load (some 34) false 3 true (.t 8),.mkl (some 35) 3 [.t 34],.e 36 39 (F 265) [.t 24,.t 33,.t 35],.store 1 (.t 5) (.t 36)])
 (.skip)) <|
 .o [.bi 37 .add 14 1,.m 14 37]) <|
 .n [.l 38 5,.m 4 38] <|
 .ret
abbrev bIm (P:Program) (F T:Nat→Nat):Prop:=Fn P (F 260) 39 [(4,none)] (c260 F T)
def c261 (F T:Nat→Nat):C :=
 .n [.box 1 (T 28) (.t 0),.alloc 2 (T 30) [(.str []),(.int .i64 0)]] <|
 .n [.f 3 0 1,.l 4 3,.f 5 1 1,.l 6 5,.build (some 7) [(.str []),(.int .i64 0)] [(0,1,(.t 4)),(1,1,(.t 6))],.store 2 (.t 2) (.t 7)] <|
 .ret
abbrev aRr (P:Program) (F T:Nat→Nat):Prop:=Fn P (F 261) 8 [(2,(some (2,true)))] (c261 F T)
def c262 (F T:Nat→Nat):C :=
 .n [.box 3 (T 31) (.t 0),.box 4 (T 31) (.t 1),.box 5 (T 31) (.t 2),.alloc 6 (T 31) [(.bool false),(.str [])],.mov (some 7) (.k (.bool false))] <|
 .seq (.block 0 <|
 .n [.load (some 9) false 2 true (.t 4),.load (some 10) false 2 true (.t 5),.eqA (some 11) false [2,1] (.t 9) (.t 10),.m 8 11] <|
 .cond (.t 8)
 (.n [.load (some 12) false 2 true (.t 4),.store 2 (.t 6) (.t 12),.mov (some 7) (.k (.bool false))] <|
 .ret)
 (.n [.load (some 14) false 2 true (.t 4),.load (some 15) false 2 true (.t 3),.eqA (some 16) false [2,1] (.t 14) (.t 15),.m 13 16] <|
 .cond (.t 13)
 (.n [.load (some 17) false 2 true (.t 5),.store 2 (.t 6) (.t 17),.mov (some 7) (.k (.bool false))] <|
 .ret)
 (.n [.load (some 19) false 2 true (.t 5),.load (some 20) false 2 true (.t 3),.eqA (some 21) false [2,1] (.t 19) (.t 20),.m 18 21] <|
 .cond (.t 18)
 (.n [.load (some 22) false 2 true (.t 4),.store 2 (.t 6) (.t 22),.mov (some 7) (.k (.bool false))] <|
 .ret)
 (.n [.f 24 0 4,.l 25 24,.m 23 25] <|
 .cond (.t 23)
 (.n [.load (some 26) false 2 true (.t 4),.store 2 (.t 6) (.t 26),.mov (some 7) (.k (.bool true))] <|
 .ret)
 (.skip))))) <|
 .n [.load (some 27) false 2 true (.t 5),.store 2 (.t 6) (.t 27),.mov (some 7) (.k (.bool true))] <|
 .ret
abbrev bGo (P:Program) (F T:Nat→Nat):Prop:=Fn P (F 262) 28 [(6,(some (2,true))),(7,none)] (c262 F T)
def c263 (F T:Nat→Nat):C :=
 .n [.mov (some 2) (.k .nils)] <|
 .seq (.n [.m 3 0,.isnil (some 4) false 1 (.t 3)] <|
 .cond (.t 4)
 (.n [.mov (some 2) (.k .nils)] <|
 .ret)
 (.skip)) <|
 .n [.mkv 5 (T 28) 3 [],.m 6 0,.app 7 (T 28) 3 (.t 5) (.t 6),.m 2 7] <|
 .ret
abbrev bHz (P:Program) (F T:Nat→Nat):Prop:=Fn P (F 263) 8 [(2,none)] (c263 F T)
def c264 (F T:Nat→Nat):C :=
 .n [.box 2 (T 30) (.t 0),.mov (some 3) (.i 0)] <|
 .n [.l 4 1,.clos (some 5) (F 266) [.t 2],.e 6 7 (F 267) [.t 4,.t 5],.m 3 6] <|
 .ret
abbrev bGm (P:Program) (F T:Nat→Nat):Prop:=Fn P (F 264) 7 [(3,none)] (c264 F T)
def c266 (F T:Nat→Nat):C :=
 .n [.box 2 (T 28) (.t 0),.mov (some 3) (.k (.bool false))] <|
 .seq (.p [.load (some 4) false 3 true (.t 2),.c 5 (F 261) [.t 4],.load (some 6) false 2 true (.t 1),.eqA (some 7) false [1,0] (.t 5) (.t 6),.m 3 7]) <|
 .ret
abbrev aY3 (P:Program) (F T:Nat→Nat):Prop:=Fn P (F 266) 8 [(3,none)] (c266 F T)
def c267 (F T:Nat→Nat):C :=
 .n [.mov (some 4) (.i 0)] <|
 .seq (.n [.m 6 0,.ll 7 6,.mov (some 8) (.i 0)] <|
 .block 0 <|
 .loop <|
 .n [.b 9 .lss 8 7] <|
 .seq (.cond (.t 9)
 (.skip)
 (.exit 0)) <|
 .seq (.block 1 <|
 .n [.m 10 8,.m 5 10] <|
 .n [.m 11 1,.m 12 0,.m 13 5,.ia 14 3 12 13,.load (some 15) false 3 true (.t 14),.vcall (some 16) 19 (.t 11) [.t 15]] <|
 .cond (.t 16)
 (.n [.m 17 5,.m 4 17] <|
 .ret)
 (.skip)) <|
 .o [.bi 18 .add 8 1,.m 8 18]) <|
 .n [.mov (some 4) (.k (.int .i64 (-1)))] <|
 .ret
abbrev bBx (P:Program) (F T:Nat→Nat):Prop:=Fn P (F 267) 19 [(4,none)] (c267 F T)
end Go.Ab
namespace Go.Ab
variable {P:Program} {F T:Nat→Nat}
open Go.Lib
abbrev U3:=List UInt8×Int×List UInt8
def u3V (u:U3):V:=.agg [.str u.1,.int .i64 u.2.1,.str u.2.2]
def Un.u3 (u:Un):U3:=(u.title,u.nth,u.text)
theorem un_v (l:List Un):l.map Un.v=(l.map Un.u3).map u3V:=by rw [List.map_map]; rfl
theorem bJu (l:List U3):(l.map u3V).length=l.length:=List.length_map ..
theorem bKc (l:List U3):V.imms (l.map u3V)=true:=aE0 _ _ fun u=>rfl
theorem aY4 {l:List U3} {i:Nat} (h:i<l.length):(l.map u3V).getD i .junk=u3V (l.getD i ([],0,[])):=by simp [List.getD,h]
theorem t261 (hf:aRr P F T) (t:List UInt8) (n:Int) (x:List UInt8):PTr P (F 261) [.agg [.str t,.int .i64 n,.str x]] (.agg [.str t,.int .i64 n]):=by
 refine ptrC [] hf (by simp) rfl ?_
 simp only [c261,push_cast,seval,-Nat.reducePow,view,List.map_cons,List.map_nil]
def tvV:Option (List UInt8)→V
 | some s=>.agg [.bool true,.str s]
 | none=>.agg [.bool false,.str []]
theorem aJ0 (o:Option (List UInt8)):(tvV o).imm=true:=by cases o <;> rfl
theorem t262 (hf:bGo P F T) (b o t:Option (List UInt8)):PTr P (F 262) [tvV b,tvV o,tvV t] (.tup [tvV (aB4 b o t).1,.bool (aB4 b o t).2]):=by
 refine ptrC [] hf (by simp [aJ0]) (by simp [V.imm,V.imms,aJ0]) ?_
 rcases b with _ | b <;> rcases o with _ | o <;> rcases t with _ | t
 all_goals
  simp only [c262,push_cast,seval,-Nat.reducePow,tvV,show (true==true)=true from rfl,show (false==true)=false from rfl,show (true==false)=false from rfl,show (false==false)=true from rfl,Bool.true_and,Bool.false_and]
 all_goals
  repeat' (refine aAk (fun h=>?_) (fun h=>?_) <;> simp only [push_cast,seval,-Nat.reducePow,show (true==true)=true from rfl,show (false==true)=false from rfl,show (true==false)=false from rfl,show (false==false)=true from rfl,Bool.true_and,Bool.false_and])
 all_goals (simp_all [view,aB4,tvV])
end Go.Ab
namespace Go.Ab
variable {P:Program} {F T:Nat→Nat}
open Go.Lib
def jT:List (List UInt8)→List UInt8
 | []=>[]
 | t::r=>t++((if (r.any fun u=>!decide (u=[]))=true∧t≠[]∧t.getLast?≠some 10 then [10] else [])++jT r)
theorem aSa:∀ l:List Un,aFe l=jT (l.map Un.text)
 | []=>rfl
 | u::r=>by
   have h:anyT r=((r.map Un.text).any fun u=>!decide (u=[])):=by unfold anyT; rw [List.any_map]; rfl
   rw [aFe,List.map_cons,jT,aSa r,h]
theorem bEa:∀ l:List (List UInt8),(jT l).length≤(l.map List.length).sum+l.length
 | []=>by simp [jT]
 | t::r=>by
   have:=bEa r
   simp only [jT,List.length_append,List.map_cons,List.sum_cons,List.length_cons]
   split <;> simp <;> omega
def aD9 (k acc:Nat):List (List UInt8)→Nat
 | []=>acc
 | x::r=>aD9 (k+1) (if x=[] then acc else k) r
theorem aFz:∀ (l:List (List UInt8)) (k acc:Nat),acc≤k→((l.any fun u=>!decide (u=[]))=true→k≤aD9 k acc l)∧((l.any fun u=>!decide (u=[]))=false→aD9 k acc l=acc)∧aD9 k acc l≤k+l.length
 | [],k,acc,h=>by simp [aD9]; exact h
 | x::r,k,acc,h=>by
   rw [List.any_cons,aD9]
   by_cases hx:x=[]
   ·obtain ⟨h1,h2,h3⟩:=aFz r (k+1) acc (by omega)
    simp only [hx,if_true,decide_true,Bool.not_true,Bool.false_or,List.length_cons]
    exact ⟨fun e=>by have:=h1 e; omega,h2,by omega⟩
   ·obtain ⟨h1,h2,h3⟩:=aFz r (k+1) k (by omega)
    simp only [hx,if_false,decide_false,Bool.not_false,Bool.true_or,List.length_cons]
    refine ⟨fun _=>?_,fun e=>(by cases e),by omega⟩
    cases e:r.any fun u=>!decide (u=[]) with
    | true=>have:=h1 e; omega
    | false=>rw [h2 e]; omega
theorem bBz {t:List UInt8} (h:t≠[]):hasSuffix t [10]=decide (t.getLast?=some 10):=by
 rw [bIb h]
 unfold endB
 have hp:=List.length_pos_iff.2 h
 rw [List.getLast?_eq_getElem?,List.getD_eq_getElem?_getD,List.getElem?_eq_getElem (by omega)]
 simp only [Option.getD_some,Option.some.injEq]
 congr 1
 rw [eq_iff_iff]
 constructor
 ·intro e; exact UInt8.toNat_inj.1 e
 ·intro e; rw [e]; rfl
theorem t255 (hf:bK2 P F T) (hS:∀ s p:List UInt8,s.length≤100000→p.length≤100000→PTr P (F 142) [.str s,.str p] (.bool (hasSuffix s p))) (h27:Is27 P F T) (h33:Is33 P F T) (h30:Is30 P F T) (h23:Is23 P F T)
 (l:List U3) (hl:l.length≤2^30) (hb:∀ u,u∈l→u.2.2.length≤100000) (hs:(l.map fun u=>u.2.2.length).sum≤2^30):PTr P (F 255) [.lst 3 (l.map u3V)] (.str (jT (l.map fun u=>u.2.2))):=by
 obtain ⟨tx,htx⟩:∃ tx,tx=l.map fun u=>u.2.2:=⟨_,rfl⟩
 have hlt:tx.length=l.length:=by rw [htx,List.length_map]
 have hsum:(tx.map List.length).sum≤2^30:=by rw [htx,List.map_map]; exact hs
 have hjl:=bEa tx
 have gtx:∀ i,i<l.length→(l.getD i ([],0,[])).2.2=tx.getD i []:=fun i h=>by rw [htx]; simp [List.getD,h]
 have hdr:∀ i,i<l.length→tx.drop i=tx.getD i []::tx.drop (i+1):=fun i h=>by rw [List.drop_eq_getElem_cons (by omega)]; simp [List.getD,show i<tx.length by omega]
 have htl:∀ i,i<l.length→(tx.getD i []).length≤100000:=fun i h=>by
  rw [← gtx i h]; exact hb _ (by simp [List.getD,h])
 rw [← htx]
 have hln:=bJu l
 have himm:=bKc l
 refine ptrC [] hf (by simp [himm]) rfl ?_
 simp only [c255,push_cast,seval,-Nat.reducePow,hln]
 refine aAl (fun m s=>∃ i acc,i≤l.length∧acc≤i∧m=l.length-i∧aD9 i acc (tx.drop i)=aD9 0 0 tx∧s.env 0=.lst 3 (l.map u3V)∧s.env 9=.lst 3 (l.map u3V)∧s.env 10=.int .i64 l.length∧s.env 11=.int .i64 i∧s.env 3=.int .i64 acc∧50≤s.nx) l.length ⟨0,0,?_⟩ fun m s hJ=>?_
 ·simp only [push_cast,seval,-Nat.reducePow]
  omega
 ·obtain ⟨i,acc,hi,hac,rfl,hla,j0,j9,j10,j11,j3,hnx⟩:=hJ
  by_cases h:i<l.length
  ·have h':((i:Nat):Int)<(l.length:Nat):=by omega
   rw [hdr i h,aD9] at hla
   have hg:=gtx i h
   simp only [push_cast,seval,-Nat.reducePow,j0,j9,j10,j11,j3,h',hln,aY4 h,u3V,hg]
   refine ⟨h,aAk (fun e=>?_) (fun e=>?_)⟩
   ·rw [if_pos e] at hla
    simp only [push_cast,seval,-Nat.reducePow,j0,j9,j10,j11,j3]
    exact ⟨by omega,l.length-(i+1),by omega,i+1,acc,by omega,by omega,rfl,hla,by simp,rfl⟩
   ·rw [if_neg e] at hla
    simp only [push_cast,seval,-Nat.reducePow,j0,j9,j10,j11,j3]
    exact ⟨by omega,l.length-(i+1),by omega,i+1,i,by omega,by omega,rfl,hla,by simp,rfl⟩
  ·have h':¬ ((i:Nat):Int)<(l.length:Nat):=by omega
   obtain rfl:i=l.length:=by omega
   obtain ⟨n,hn⟩:∃ n,n=aD9 0 0 tx:=⟨_,rfl⟩
   have hac2:acc=n:=by
    rw [hn,← hla,List.drop_eq_nil_of_le (by omega)]; rfl
   subst hac2
   simp only [push_cast,seval,-Nat.reducePow,j0,j9,j10,j11,j3,h',hln]
   refine aAl (fun m s1=>∃ i a out,i≤l.length∧a≤i∧m=l.length-i∧aD9 i a (tx.drop i)=acc∧out++jT (tx.drop i)=jT tx∧s1.env 21=.lst 3 (l.map u3V)∧s1.env 22=.int .i64 l.length∧s1.env 23=.int .i64 i∧s1.env 3=.int .i64 acc∧s1.env 6=.ptr (s.nx+54) 0∧s1.L (s.nx+54)=some (.bld (T 2) (T 3) out)∧s.nx+54<s1.nx) l.length ⟨0,0,[],?_⟩ fun m s1 hJ=>?_
   ·simp only [push_cast,seval,-Nat.reducePow]
    exact ⟨by omega,hn.symm,j3,by omega⟩
   ·obtain ⟨i,a,out,hi,ha,rfl,hla,ho,k21,k22,k23,k3,k6,kL,knx⟩:=hJ
    obtain ⟨b,hb'⟩:∃ b,b=s.nx+54:=⟨_,rfl⟩
    rw [← hb'] at k6 kL knx
    by_cases h:i<l.length
    ·have h':((i:Nat):Int)<(l.length:Nat):=by omega
     have hg:=gtx i h
     have hol:out.length+(jT (tx.drop i)).length=(jT tx).length:=by rw [← ho,List.length_append]
     rw [hdr i h,aD9] at hla
     have ho2:=ho
     rw [hdr i h,jT] at ho hol
     simp only [List.length_append] at hol
     have n1:s1.nx+8≠b:=by omega
     have n2:b≠s1.nx+8:=by omega
     simp only [push_cast,seval,-Nat.reducePow,k21,k22,k23,k3,k6,h',hln,aY4 h,u3V,hg]
     have n1:s1.nx+56≠b:=by omega
     have n2:b≠s1.nx+56:=by omega
     refine ⟨h,aAc (t27 h27 h30 (bs:=out) (by simp only [push_cast,seval,-Nat.reducePow,n2,kL]) (by omega) (by omega)) ?_⟩
     rintro v L1 n3 ⟨w1,w2,w3⟩
     have hla':∃ a',a'≤i+1∧aD9 (i+1) a' (tx.drop (i+1))=acc:=⟨_,by split <;> omega,hla⟩
     obtain ⟨a',ha',hla'⟩:=hla'
     have w4:=w3 (s1.nx+56) (by omega) n1
     simp only [push_cast,seval,-Nat.reducePow] at w4
     have hsuf:=hS (tx.getD i []) [10] (htl i h) (by decide)
     by_cases q1:i<acc
     ·have q1':((i:Nat):Int)<(acc:Nat):=by omega
      by_cases q2:tx.getD i []=[]
      ·rw [if_pos q2] at hla
       have hz:out++tx.getD i []++jT (tx.drop (i+1))=jT tx:=by rw [← ho,q2]; simp
       simp only [push_cast,seval,-Nat.reducePow,k21,k22,k23,k3,k6,q1',w4,q2]
       exact ⟨by omega,l.length-(i+1),by omega,i+1,a',out++tx.getD i [],by omega,ha',rfl,hla',hz,by simp,by rw [hb'],by rw [← hb']; exact w2,by omega⟩
      ·rw [if_neg q2] at hla
       have hany:=(aFz (tx.drop (i+1)) (i+1) i (by omega))
       have hany2:((tx.drop (i+1)).any fun u=>!decide (u=[]))=true:=by
        cases e:(tx.drop (i+1)).any fun u=>!decide (u=[]) with
        | true=>rfl
        | false=>have:=hany.2.1 e; omega
       rw [bBz q2] at hsuf
       simp only [push_cast,seval,-Nat.reducePow,k21,k22,k23,k3,k6,q1',w4,q2]
       refine aAh hsuf (by simp only [push_cast,seval,-Nat.reducePow]) (by simp only [push_cast,seval,-Nat.reducePow]) ?_
       by_cases q3:(tx.getD i []).getLast?=some 10
       ·have hz:out++tx.getD i []++jT (tx.drop (i+1))=jT tx:=by rw [← ho,if_neg fun hh=>hh.2.2 q3]; simp
        simp only [push_cast,seval,-Nat.reducePow,k21,k22,k23,k3,k6,q3]
        exact ⟨by omega,l.length-(i+1),by omega,i+1,a',out++tx.getD i [],by omega,ha',rfl,hla',hz,by simp,by rw [hb'],by rw [← hb']; exact w2,by omega⟩
       ·have hz:out++tx.getD i []++[10]++jT (tx.drop (i+1))=jT tx:=by rw [← ho,if_pos ⟨hany2,q2,q3⟩]; simp
        simp only [push_cast,seval,-Nat.reducePow,k21,k22,k23,k3,k6,q3]
        refine aAc (t33 h33 h30 (b:=10) w2 (by omega) (by simp only [List.length_append]; omega)) ?_
        rintro v L2 n4 ⟨y1,y2,y3⟩
        simp only [push_cast,seval,-Nat.reducePow,k21,k22,k23,k3,k6]
        exact ⟨by omega,l.length-(i+1),by omega,i+1,a',out++tx.getD i []++[10],by omega,ha',rfl,hla',hz,by simp,by rw [hb'],by rw [← hb']; exact y2,by omega⟩
     ·have q1':¬ ((i:Nat):Int)<(acc:Nat):=by omega
      have hz:out++tx.getD i []++jT (tx.drop (i+1))=jT tx:=by
       rw [← ho]
       by_cases q2:tx.getD i []=[]
       ·rw [if_neg fun hh=>hh.2.1 q2]; simp
       ·rw [if_neg q2] at hla
        have hany:=(aFz (tx.drop (i+1)) (i+1) i (by omega))
        have hany2:((tx.drop (i+1)).any fun u=>!decide (u=[]))=false:=by
         cases e:(tx.drop (i+1)).any fun u=>!decide (u=[]) with
         | false=>rfl
         | true=>have:=hany.1 e; omega
        rw [if_neg fun hh=>by rw [hany2] at hh; exact absurd hh.1 (by decide)]; simp
      simp only [push_cast,seval,-Nat.reducePow,k21,k22,k23,k3,k6,q1',w4]
      exact ⟨by omega,l.length-(i+1),by omega,i+1,a',out++tx.getD i [],by omega,ha',rfl,hla',hz,by simp,by rw [hb'],by rw [← hb']; exact w2,by omega⟩
    ·have h':¬ ((i:Nat):Int)<(l.length:Nat):=by omega
     obtain rfl:i=l.length:=by omega
     rw [List.drop_eq_nil_of_le (by omega),jT,List.append_nil] at ho
     simp only [push_cast,seval,-Nat.reducePow,k21,k22,k23,k3,k6,h']
     refine aAc (t23 h23 kL (by omega)) ?_
     rintro v L1 n3 ⟨rfl,w1,w2⟩
     simp only [push_cast,seval,-Nat.reducePow,view,ho]
end Go.Ab
namespace Go.Ab
variable {P:Program} {F T:Nat→Nat}
open Go.Lib
section maps
variable {κ ν:Type} [DecidableEq κ]
def mE (enc:κ→V) (ev:ν→V) (l:List (κ×ν×Nat)):List (V×V×Nat):=l.map fun e=>(enc e.1,ev e.2.1,e.2.2)
def ixK (l:List (κ×ν×Nat)) (k:κ):Option Nat:=l.findIdx? fun e=>decide (k=e.1)
def getK (l:List (κ×ν×Nat)) (k:κ):Option ν:=(l.find? fun e=>decide (k=e.1)).map (·.2.1)
theorem aI0 {ag:Bool} {ks:List Nat} {enc:κ→V} {ev:ν→V} (henc:∀ a b,aAo ks (enc a).cells (enc b).cells=some (decide (a=b))) (hA:∀ a,(enc a).isA=ag) (k:κ):∀ l:List (κ×ν×Nat),aCr ag ks (enc k) (mE enc ev l)=some (ixK l k)
 | []=>rfl
 | e::r=>by
   have ih:=aI0 henc hA k (ev:=ev) r
   show aCr ag ks (enc k) ((enc e.1,ev e.2.1,e.2.2)::mE enc ev r)=_
   rw [aCr,if_pos (hA _),henc k e.1,ixK,List.findIdx?_cons]
   by_cases h:k=e.1
   ·simp [h]
   ·simp only [h,decide_false,ih]
    rfl
theorem aR3 {l:List (κ×ν×Nat)} {k:κ}:match ixK l k with
 | some i=>i<l.length∧∃ v b,l[i]?=some (k,v,b)∧getK l k=some v∧∀ j e,j<i→l[j]?=some e→k≠e.1
 | none=>getK l k=none∧∀ e,e∈l→k≠e.1:=by
 unfold ixK getK
 induction l with
 | nil=>simp
 | cons x r ih =>
   rw [List.findIdx?_cons,List.find?_cons]
   by_cases h:k=x.1
   ·simp only [h,decide_true,if_true]
    exact ⟨by simp,x.2.1,x.2.2,by simp,rfl,fun j e hj=>by omega⟩
   ·simp only [h,decide_false]
    cases hx:List.findIdx? (fun e=>decide (k=e.1)) r with
    | none =>
      rw [hx] at ih
      refine ⟨ih.1,fun e he=>?_⟩
      rcases List.mem_cons.1 he with rfl | he
      ·exact h
      ·exact ih.2 e he
    | some i =>
      rw [hx] at ih
      obtain ⟨h1,v,b,h2,h3,h4⟩:=ih
      simp only [Option.map_some,if_neg (show ¬ (false=true) from by decide)]
      refine ⟨by simp only [List.length_cons]; omega,v,b,by simpa using h2,h3,fun j e hj he=>?_⟩
      cases j with
      | zero=>simp at he; rw [← he]; exact h
      | succ j=>exact h4 j e (by omega) (by simpa using he)
theorem aWy {enc:κ→V} {ev:ν→V} (z:V) (l:List (κ×ν×Nat)) (k:κ):mres false z (mE enc ev l) (ixK l k)=match getK l k with | some v=>ev v | none=>z:=by
 have h:=aR3 (l:=l) (k:=k)
 cases e:ixK l k with
 | none=>rw [e] at h; rw [h.1]; rfl
 | some i =>
   rw [e] at h
   obtain ⟨h1,v,b,h2,h3,_⟩:=h
   rw [h3]
   simp [mres,mE,List.getD,h2]
theorem bA3 (l:List (κ×ν×Nat)) (e:κ×ν×Nat) (k:κ):getK (l++[e]) k=match getK l k with | some v=>some v | none=>if k=e.1 then some e.2.1 else none:=by
 unfold getK
 rw [List.find?_append]
 cases List.find? (fun e=>decide (k=e.1)) l with
 | some x=>simp
 | none=>simp only [Option.none_or,List.find?_cons,List.find?_nil,Option.map_none]; by_cases h:k=e.1 <;> simp [h]
theorem bBg {l:List (κ×ν×Nat)} {i:Nat} {k:κ} {v0 v:ν} {b:Nat} (h:l[i]?=some (k,v0,b)) (hb:∀ j e,j<i→l[j]?=some e→k≠e.1) (k':κ):getK (l.set i (k,v,b)) k'=if k'=k then some v else getK l k':=by
 unfold getK
 induction l generalizing i with
 | nil=>simp at h
 | cons x r ih =>
   cases i with
   | zero =>
     simp at h
     subst h
     simp only [List.set_cons_zero,List.find?_cons]
     by_cases hk:k'=k <;> simp [hk]
   | succ i =>
     have h0:=hb 0 x (by omega) (by simp)
     simp only [List.set_cons_succ,List.find?_cons]
     have:=ih (i:=i) (by simpa using h) (fun j e hj he=>hb (j+1) e (by omega) (by simpa using he))
     by_cases hk:k'=x.1
     ·have:¬ k'=k:=fun e=>h0 (e.symm.trans hk)
      simp [hk,this,show ¬ x.1=k from fun e=>h0 e.symm]
     ·simp only [hk,decide_false]
      exact this
theorem aXj {enc:κ→V} {ev:ν→V} (c:Nat) (l:List (κ×ν×Nat)) (k:κ) (v:ν):∃ c' l',aGs c (mE enc ev l) (enc k) (ev v) (ixK l k)=.map c' (mE enc ev l')∧∀ k',getK l' k'=if k'=k then some v else getK l k':=by
 have h:=aR3 (l:=l) (k:=k)
 cases e:ixK l k with
 | none =>
   rw [e] at h
   refine ⟨c+1,l++[(k,v,c)],by simp [aGs,mE],fun k'=>?_⟩
   rw [bA3]
   by_cases hk:k'=k
   ·subst hk; simp [h.1]
   ·simp only [hk,if_false]
    cases getK l k' <;> rfl
 | some i =>
   rw [e] at h
   obtain ⟨h1,v0,b,h2,h3,h4⟩:=h
   refine ⟨c,l.set i (k,v,b),?_,fun k'=>bBg h2 h4 k'⟩
   simp [aGs,mE,List.getD,h2,List.map_set]
end maps
theorem aGg (a b:List UInt8):aAo [1] (V.str a).cells (V.str b).cells=some (decide (a=b)):=by simp [V.cells,aAo,aBf]
def pnV (k:List UInt8×Int):V:=.agg [.str k.1,.int .i64 k.2]
theorem bEd (a b:List UInt8×Int):aAo [1,0] (pnV a).cells (pnV b).cells=some (decide (a=b)):=by
 obtain ⟨a1,a2⟩:=a
 obtain ⟨b1,b2⟩:=b
 simp [pnV,V.cells,aAo,aBf,Prod.mk.injEq]
end Go.Ab
namespace Go.Ab
variable {P:Program} {F T:Nat→Nat}
open Go.Lib
theorem aFj {L:Heap} {n i ty z sz:Nat} {es:List V} (h:L i=some (.vec ty z es)) (hi:V.imms es=true):view L (n+1) (.own i sz 0 es.length)=.lst sz es:=by
 simp only [view,h,Nat.zero_add,Nat.le_refl,if_true,List.drop_zero,List.take_length]
 rw [show es.map (view L n)=es.map id from List.map_congr_left fun x hx=>aHf n x (aBo hi hx),List.map_id]
theorem bDe (d:List Sec) (x y:Sec) (r:List Sec):(secV (d++x::y::r)).getD (d.length+1) .junk=y.v:=by
 simp [secV,List.getD]
abbrev intN (n:Nat):V:=.int .i64 n
def tvS (s:List UInt8):V:=.agg [.bool true,.str s]
def aG5 (l:List Un) (k:List UInt8×Int):Option (List UInt8):=(l.reverse.find? fun u=>decide (k=(u.title,(u.nth:Int)))).map Un.text
theorem aTo (d:List Un) (u:Un) (k:List UInt8×Int):aG5 (d++[u]) k=if k=(u.title,(u.nth:Int)) then some u.text else aG5 d k:=by
 unfold aG5
 rw [List.reverse_append,List.reverse_singleton,List.singleton_append,List.find?_cons]
 by_cases h:k=(u.title,(u.nth:Int)) <;> simp [h]
theorem t259 (hf:bFh P F T) (h261:aRr P F T) (us:List Un) (hu:us.length≤2^30) (L:Heap) (nx:Nat) :
 ECall P (F 259) [.lst 3 (us.map Un.v)] L nx fun v L' nx'=>∃ c ml,nx≤nx'∧v=.map (nx+27)∧nx+27<nx'∧L' (nx+27)=some (.map c (mE pnV tvS ml))∧(∀ k,getK ml k=aG5 us k)∧∀ x,x<nx→L' x=L x:=by
 have hln:(us.map Un.v).length=us.length:=List.length_map ..
 refine aCo [] hf (by simp) ?_
 simp only [c259,push_cast,seval,-Nat.reducePow,hln]
 refine aAl (fun m s1=>∃ d r c ml,us=d++r∧m=r.length∧(∀ k,getK ml k=aG5 d k)∧s1.env 7=.lst 3 (us.map Un.v)∧s1.env 8=.int .i64 us.length∧s1.env 9=.int .i64 d.length∧s1.env 3=.map (nx+27)∧s1.L (nx+27)=some (.map c (mE pnV tvS ml))∧nx+27<s1.nx∧∀ x,x<nx→s1.L x=L x) us.length ⟨[],us,0,[],?_⟩ fun m s1 hJ=>?_
 ·simp only [push_cast,seval,-Nat.reducePow]
  exact ⟨fun k=>rfl,rfl,by omega,fun x hx=>aAd _ _ _ _ (by omega)⟩
 ·obtain ⟨d,r,c,ml,rfl,rfl,hm,j7,j8,j9,j3,jL,hnx,hold⟩:=hJ
  cases r with
  | nil =>
    have h':¬ ((d.length:Nat):Int)<((d++[]).length:Nat):=by simp
    simp only [push_cast,seval,-Nat.reducePow,j7,j8,j9,j3,h']
    exact ⟨by omega,c,ml,by omega,by omega,jL,by simpa using hm,hold⟩
  | cons u r =>
    have h':((d.length:Nat):Int)<((d++u::r).length:Nat):=by simp; omega
    have hg:((d++u::r).map Un.v).getD d.length .junk=.agg [.str u.title,.int .i64 u.nth,.str u.text]:=by simp [List.getD,Un.v]
    have hdl:(d++u::r).length=d.length+(r.length+1):=by simp
    simp only [push_cast,seval,-Nat.reducePow,j7,j8,j9,j3,h',hln,hg]
    refine aAh (t261 h261 u.title u.nth u.text) (by simp only [push_cast,seval,-Nat.reducePow]) (by simp only [push_cast,seval,-Nat.reducePow]) ?_
    simp only [push_cast,seval,-Nat.reducePow,j3]
    obtain ⟨c',ml',hput,hget⟩:=aXj (enc:=pnV) (ev:=tvS) c ml (u.title,(u.nth:Int)) u.text
    have hfind:=aI0 (ks:=[1,0]) (ag:=true) (enc:=pnV) (ev:=tvS) bEd (fun _=>rfl) (u.title,(u.nth:Int)) ml
    have hput2:aGs c (mE pnV tvS ml) (.agg [.str u.title,.int .i64 u.nth]) (.agg [.bool true,.str u.text]) (ixK ml (u.title,(u.nth:Int)))=.map c' (mE pnV tvS ml'):=hput
    have n1:nx+27≠s1.nx+26:=by omega
    refine aGi (cl:=c) (by simp only [upd,n1,if_false,jL]) (by simp [aD3,V.isA,V.cells,aAo,aBf,V.imm,V.imms]) rfl hfind ?_
    simp only [push_cast,seval,-Nat.reducePow,j7,j8,j9,j3,hput2]
    refine ⟨by omega,r.length,by omega,d++[u],r,c',ml',by simp,rfl,fun k=>?_,by simp,rfl,by omega,fun x hx=>?_⟩
    ·rw [hget,aTo,hm]
    ·rw [aAd _ _ _ _ (by omega),aAd _ _ _ _ (by omega),aAd _ _ _ _ (by omega)]; exact hold x hx
end Go.Ab
namespace Go.Ab
variable {P:Program} {F T:Nat→Nat}
open Go.Lib
theorem aD2 (l:List Un):V.imms (l.map Un.v)=true:=aE0 _ _ fun u=>rfl
theorem aIg (l:List Un):(l.map Un.v).length=l.length:=List.length_map ..
theorem t263 (hf:bHz P F T) (us:List Un) (h0:0<us.length) (hu:us.length≤2^32) (L:Heap) (nx:Nat) :
 ECall P (F 263) [.lst 3 (us.map Un.v)] L nx fun v L' nx'=>∃ id,v=.own id 3 0 us.length∧L' id=some (.vec (T 28) 3 (us.map Un.v))∧nx≤id∧id<nx'∧∀ x,x<nx→L' x=L x:=by
 have hln:=aIg us
 refine aCo [] hf (by simp) ?_
 simp only [c263,push_cast,seval,-Nat.reducePow,hln]
 exact ⟨h0,hu,by omega,nx+23,rfl,aAf _ _ _,by omega,by omega,fun x hx=>by rw [aAd _ _ _ _ (by omega),aAd _ _ _ _ (by omega),aAd _ _ _ _ (by omega)]⟩
theorem t266 (hf:aY3 P F T) (h261:aRr P F T) (u:Un) (t:List UInt8) (n:Int) (L:Heap) (nx b:Nat) (hL:L b=some (.box (T 30) [.str t,.int .i64 n])) (hb:b<nx) :
 ECall P (F 266) [u.v,.ptr b 0] L nx fun v L' nx'=>v=.bool (decide (u.title=t)&&decide ((u.nth:Int)=n))∧nx≤nx'∧∀ x,x<nx→L' x=L x:=by
 have n1:b≠nx+2:=by omega
 refine aCo [] hf (by simp) ?_
 simp only [c266,push_cast,seval,-Nat.reducePow,Un.v,hL]
 refine aAh (t261 h261 u.title u.nth u.text) (by simp only [push_cast,seval,-Nat.reducePow]) (by simp only [push_cast,seval,-Nat.reducePow]) ?_
 simp only [push_cast,seval,-Nat.reducePow,hL,n1]
 exact ⟨by omega,by omega,fun x hx=>aAd _ _ _ _ (by omega)⟩
def ixG (t:List UInt8) (n:Int) (i:Nat):List Un→Int
 | []=>-1
 | u::r=>if (decide (u.title=t)&&decide ((u.nth:Int)=n))=true then i else ixG t n (i+1) r
theorem t267 (hf:bBx P F T) (h266:aY3 P F T) (h261:aRr P F T) (hb266:aBp P (F 266)=true) (us:List Un) (hu:us.length≤2^32) (t:List UInt8) (n:Int) (L:Heap) (nx b:Nat) (hL:L b=some (.box (T 30) [.str t,.int .i64 n])) (hb:b<nx) :
 ECall P (F 267) [.lst 3 (us.map Un.v),.fn (F 266) [.ptr b 0]] L nx fun v L' nx'=>v=.int .i64 (ixG t n 0 us)∧nx≤nx'∧∀ x,x<nx→L' x=L x:=by
 have hln:=aIg us
 refine aCo [] hf (by simp) ?_
 simp only [c267,push_cast,seval,-Nat.reducePow,hln]
 refine aAl (fun m s1=>∃ d r,us=d++r∧m=r.length∧ixG t n d.length r=ixG t n 0 us∧s1.env 0=.lst 3 (us.map Un.v)∧s1.env 1=.fn (F 266) [.ptr b 0]∧s1.env 7=.int .i64 us.length∧s1.env 8=.int .i64 d.length∧nx≤s1.nx∧∀ x,x<nx→s1.L x=L x) us.length ⟨[],us,?_⟩ fun m s1 hJ=>?_
 ·simp only [push_cast,seval,-Nat.reducePow]
  exact ⟨by omega,fun _ _=>trivial⟩
 ·obtain ⟨d,r,rfl,rfl,hi,j0,j1,j7,j8,hnx,hold⟩:=hJ
  cases r with
  | nil =>
    have h':¬ ((d.length:Nat):Int)<((d++[]).length:Nat):=by simp
    rw [ixG] at hi
    simp only [push_cast,seval,-Nat.reducePow,j0,j1,j7,j8,h']
    exact ⟨by omega,by rw [hi,List.append_nil],by omega,hold⟩
  | cons u r =>
    have h':((d.length:Nat):Int)<((d++u::r).length:Nat):=by simp; omega
    have hg:((d++u::r).map Un.v).getD d.length .junk=u.v:=by simp [List.getD]
    have hdl:(d++u::r).length=d.length+(r.length+1):=by simp
    rw [ixG] at hi
    simp only [push_cast,seval,-Nat.reducePow,j0,j1,j7,j8,h',hln,hg,Un.v]
    refine ⟨hb266,aAc (t266 h266 h261 u t n s1.L _ b (by rw [hold b hb]; exact hL) (by omega)) ?_⟩
    rintro v L1 n1 ⟨rfl,k1,k2⟩
    cases e:(decide (u.title=t)&&decide ((u.nth:Int)=n)) with
    | true =>
      rw [if_pos e] at hi
      simp only [push_cast,seval,-Nat.reducePow,j0,j1,j7,j8]
      exact ⟨by omega,by rw [hi],by omega,fun x hx=>by rw [k2 x (by omega)]; exact hold x hx⟩
    | false =>
      rw [if_neg (by rw [e]; decide)] at hi
      simp only [push_cast,seval,-Nat.reducePow,j0,j1,j7,j8]
      exact ⟨by omega,r.length,by omega,d++[u],r,by simp,rfl,by rw [← hi]; simp,by simp,by omega,fun x hx=>by rw [k2 x (by omega)]; exact hold x hx⟩
theorem t264 (hf:bGm P F T) (h267:bBx P F T) (h266:aY3 P F T) (h261:aRr P F T) (hb266:aBp P (F 266)=true) (us:List Un) (hu:us.length≤2^32) (t:List UInt8) (n:Int) :
 PTr P (F 264) [.agg [.str t,.int .i64 n],.cptr [.lst 3 (us.map Un.v)]] (.int .i64 (ixG t n 0 us)):=by
 have him:=aD2 us
 refine ptrC [] hf (by simp [him]) rfl ?_
 simp only [c264,push_cast,seval,-Nat.reducePow]
 refine aAc (t267 h267 h266 h261 hb266 us hu t n _ _ 2 (by simp only [push_cast,seval,-Nat.reducePow]) (by omega)) ?_
 rintro v L1 n1 ⟨rfl,k1,k2⟩
 simp only [push_cast,seval,-Nat.reducePow,view]
theorem bAd (k:List UInt8×Nat):∀ (l:List Un) (i:Nat),ixG k.1 k.2 i l=if hasU l k=true then ((i+atU l k:Nat):Int) else -1
 | [],i=>by simp [ixG,hasU]
 | u::r,i=>by
   rw [ixG,bAd k r (i+1)]
   have h1:hasU (u::r) k=(decide (u.nm=k)||hasU r k):=by unfold hasU; rw [List.any_cons]
   have h2:atU (u::r) k=if u.nm=k then 0 else atU r k+1:=by
    unfold atU
    rw [List.findIdx_cons]
    by_cases h:u.nm=k <;> simp [h]
   have h3:(decide (u.title=k.1)&&decide ((u.nth:Int)=k.2))=decide (u.nm=k):=by
    obtain ⟨a,b⟩:=k
    simp only [Un.nm,Prod.mk.injEq]
    by_cases ha:u.title=a <;> by_cases hb:u.nth=b <;> simp [ha,hb]
    omega
   rw [h1,h2,h3]
   by_cases h:u.nm=k
   ·simp [h]
   ·simp only [h,decide_false,Bool.false_or,if_false,Bool.false_eq_true]
    by_cases hh:hasU r k=true
    ·simp only [hh,if_true]; omega
    ·simp [hh]
def InsC (P:Program) (F T:Nat→Nat):Prop:=∀ (us:List Un) (i:Nat) (u:Un) (id nx:Nat) (L:Heap),L id=some (.vec (T 28) 3 (us.map Un.v))→0<us.length→i≤us.length→us.length≤2^31→id<nx →
 ECall P (F 265) [.own id 3 0 us.length,.int .i64 i,.lst 3 [u.v]] L nx fun v L' nx'=>∃ id',v=.own id' 3 0 (us.length+1)∧L' id'=some (.vec (T 28) 3 ((insU us i u).map Un.v))∧(id'=id∨nx≤id')∧id'<nx'∧nx≤nx'∧∀ x,x<nx→x≠id→L' x=L x
structure OrdFns (P:Program) (F T:Nat→Nat):Prop where
 h260:bIm P F T
 h261:aRr P F T
 h263:bHz P F T
 h264:bGm P F T
 h266:aY3 P F T
 h267:bBx P F T
 b264:aBp P (F 264)=true
 b266:aBp P (F 266)=true
theorem t260 (K:OrdFns P F T) (o t:List Un) (hI:InsC P F T∨∀ u,u∈t→hasU o u.nm=true) (h0:0<o.length) (ho:o.length≤2^30) (htl:t.length≤2^30) (hfst:∀ u r,t=u::r→hasU o u.nm=true) :
 PTr P (F 260) [.lst 3 (o.map Un.v),.lst 3 (t.map Un.v)] (.lst 3 ((aCp o t).map Un.v)):=by
 have hln:=aIg o
 have hlt:=aIg t
 refine ptrC [] K.h260 (by simp [aD2]) (by simp [V.imm,aD2]) ?_
 simp only [c260,push_cast,seval,-Nat.reducePow,hln,hlt]
 refine aAc (t263 K.h263 o h0 (by omega) _ _) ?_
 rintro v L1 n1 ⟨id,rfl,k1,k2,k3,k4⟩
 simp only [push_cast,seval,-Nat.reducePow,hlt]
 have hne0:id≠n1+5:=by omega
 obtain ⟨p,hp⟩:∃ p,p=n1+5:=⟨_,rfl⟩
 rw [← hp] at hne0 ⊢
 refine aAl (fun m s=>∃ d r out id prev,t=d++r∧m=r.length∧ordG out prev r=aCp o t∧0<out.length∧out.length≤o.length+d.length∧(d=[]∨(hasU out prev=true∧∃ d' u,d=d'++[u]∧u.nm=prev))∧(∀ n,hasU o n=true→hasU out n=true) ∧
  s.env 1=.lst 3 (t.map Un.v)∧s.env 12=.lst 3 (t.map Un.v)∧s.env 13=.int .i64 t.length∧s.env 14=.int .i64 d.length∧s.env 5=.ptr p 0∧s.env 6=.fn (F 264) [.ptr p 0]∧s.L p=some (.box (T 32) [.own id 3 0 out.length])∧s.L id=some (.vec (T 28) 3 (out.map Un.v))∧id<s.nx∧p<s.nx∧id≠p) t.length ⟨[],t,o,id,([],0),?_⟩ fun m s hJ=>?_
 ·simp only [push_cast,seval,-Nat.reducePow,hne0,k2]
  exact ⟨rfl,h0,fun _ h=>h,k1,by omega,by omega⟩
 ·obtain ⟨d,r,out,id,prev,rfl,rfl,ho2,hpos,hol,hprev,hsub,j1,j12,j13,j14,j5,j6,jp,jL,hid,hpn,hne⟩:=hJ
  have hlo:=aIg out
  have him:=aD2 out
  cases r with
  | nil =>
    have h':¬ ((d.length:Nat):Int)<((d++[]).length:Nat):=by simp
    rw [ordG] at ho2
    simp only [push_cast,seval,-Nat.reducePow,j1,j12,j13,j14,j5,j6,jp,h']
    rw [List.append_nil] at ho2
    rw [← ho2]
    have:=aFj (n:=2) (sz:=3) jL him
    rw [hlo] at this
    exact this
  | cons u r =>
    have h':((d.length:Nat):Int)<((d++u::r).length:Nat):=by simp; omega
    have hg:((d++u::r).map Un.v).getD d.length .junk=.agg [.str u.title,.int .i64 u.nth,.str u.text]:=by simp [List.getD,Un.v]
    have hdl:(d++u::r).length=d.length+(r.length+1):=by simp
    rw [ordG] at ho2
    simp only [push_cast,seval,-Nat.reducePow,j1,j12,j13,j14,j5,j6,h',hlt,hg]
    refine aAh (t261 K.h261 u.title u.nth u.text) (by simp only [push_cast,seval,-Nat.reducePow]) (by simp only [push_cast,seval,-Nat.reducePow]) ?_
    simp only [push_cast,seval,-Nat.reducePow,j6]
    have n1':p≠s.nx+47:=by omega
    have n2':id≠s.nx+47:=by omega
    have c1:=t264 K.h264 K.h267 K.h266 K.h261 K.b266 out (by omega) u.title (u.nth:Int)
    have hv:∀ L:Heap,L p=some (.box (T 32) [.own id 3 0 out.length])→L id=some (.vec (T 28) 3 (out.map Un.v))→view L 4 (.fn (F 264) [.ptr p 0])=.fn (F 264) [.cptr [.lst 3 (out.map Un.v)]]:=fun L e1 e2=>by
     have:=aFj (n:=1) (sz:=3) e2 him
     rw [hlo] at this
     simp only [view,List.map_cons,List.map_nil,e1,List.drop_zero] at this ⊢
     rw [this]
    rw [bAd (u.nm) out 0] at c1
    refine aIa (hv _ ?_ ?_) K.b264 c1 ?_ rfl ?_
    ·rw [aAd _ _ _ _ n1',aAd _ _ _ _ n1']; exact jp
    ·rw [aAd _ _ _ _ n2',aAd _ _ _ _ n2']; exact jL
    ·simp [view,V.imms,V.imm,him]
    cases hh:hasU out u.nm with
    | true =>
      rw [if_pos hh] at ho2
      have q:¬ ((atU out u.nm:Nat):Int)<0:=by omega
      simp only [push_cast,seval,-Nat.reducePow,q,j1,j12,j13,j14,j5,j6]
      exact ⟨by omega,r.length,by omega,d++[u],r,out,id,u.nm,by simp,rfl,ho2,hpos,by simp; omega,.inr ⟨hh,d,u,rfl,rfl⟩,hsub,by simp,by rw [aAd _ _ _ _ n1',aAd _ _ _ _ n1']; exact jp,by rw [aAd _ _ _ _ n2',aAd _ _ _ _ n2']; exact jL,by omega,by omega,hne⟩
    | false =>
      rw [if_neg (by rw [hh]; decide)] at ho2
      have hIns:InsC P F T:=by
       rcases hI with hI | hI
       ·exact hI
       ·have:=hsub _ (hI u (by simp))
        rw [hh] at this
        cases this
      rcases hprev with rfl | ⟨hp1,d',u0,rfl,hp2⟩
      ·have:=hsub _ (hfst u r rfl)
       rw [hh] at this
       cases this
      have e1:(((d'++[u0]).length:Nat):Int)-1=((d'.length:Nat):Int):=by simp
      have hg2:((d'++[u0]++u::r).map Un.v).getD d'.length .junk=.agg [.str u0.title,.int .i64 u0.nth,.str u0.text]:=by simp [List.getD,Un.v]
      have c2:=t264 K.h264 K.h267 K.h266 K.h261 K.b266 out (by omega) u0.title (u0.nth:Int)
      rw [bAd (u0.nm) out 0,hp2,if_pos hp1,Nat.zero_add] at c2
      have hat:atU out prev<out.length:=by
       unfold atU
       rw [List.findIdx_lt_length]
       unfold hasU at hp1
       rw [List.any_eq_true] at hp1
       exact hp1
      simp only [push_cast,seval,-Nat.reducePow,j1,j12,j13,j14,j5,j6,jp,n1',e1,hg2,hlt]
      refine ⟨by omega,by omega,?_⟩
      refine aAh (t261 K.h261 u0.title u0.nth u0.text) (by simp only [push_cast,seval,-Nat.reducePow]) (by simp only [push_cast,seval,-Nat.reducePow]) ?_
      refine aIa (hv _ ?_ ?_) K.b264 c2 ?_ rfl ?_
      ·rw [aAd _ _ _ _ n1',aAd _ _ _ _ n1']; exact jp
      ·rw [aAd _ _ _ _ n2',aAd _ _ _ _ n2']; exact jL
      ·simp [view,V.imms,V.imm,him]
      simp only [push_cast,seval,-Nat.reducePow,j1,j12,j13,j14,j5,j6]
      refine ⟨by omega,aAc (hIns out (atU out prev+1) u id _ _ (by rw [aAd _ _ _ _ n2',aAd _ _ _ _ n2']; exact jL) hpos (by omega) (by omega) (by omega)) ?_⟩
      rintro v L2 n2 ⟨id2,rfl,y1,y2,y3,y4,y5⟩
      have y6:L2 p=some (.box (T 32) [.own id 3 0 out.length]):=by rw [y5 p (by omega) (fun e=>hne e.symm),aAd _ _ _ _ n1',aAd _ _ _ _ n1']; exact jp
      have y7:id2≠p:=by rcases y2 with rfl | y2 <;> omega
      simp only [push_cast,seval,-Nat.reducePow,j1,j12,j13,j14,j5,j6,y6]
      have hil:(insU out (atU out prev+1) u).length=out.length+1:=by unfold insU; simp; omega
      refine ⟨by omega,r.length,by omega,d'++[u0]++[u],r,insU out (atU out prev+1) u,id2,u.nm,by simp,rfl,ho2,by omega,by simp at hol ⊢; omega,.inr ⟨by rw [aR9]; simp,d'++[u0],u,rfl,rfl⟩,fun n hn=>by rw [aR9,hsub n hn,Bool.or_true],by simp; omega,?_⟩
      exact ⟨by rw [hil],by rw [aAd _ _ _ _ y7]; exact y1,by omega,by omega,y7⟩
end Go.Ab
namespace Go.Ab
variable {P:Program} {F T:Nat→Nat}
open Go.Lib
theorem aUs (u:Un) (l:List Un) (k:List UInt8×Int):aG5 (u::l) k=match aG5 l k with | some s=>some s | none=>if k=(u.title,(u.nth:Int)) then some u.text else none:=by
 unfold aG5
 rw [List.reverse_cons,List.find?_append]
 cases (l.reverse.find? fun u=>decide (k=(u.title,(u.nth:Int)))) with
 | some x=>simp
 | none=>simp only [Option.none_or,List.find?_cons,List.find?_nil,Option.map_none]; by_cases h:k=(u.title,(u.nth:Int)) <;> simp [h]
theorem aUe {l:List Un} {k:List UInt8×Int} (h:∀ u,u∈l→k≠(u.title,(u.nth:Int))):aG5 l k=none:=by
 unfold aG5
 rw [Option.map_eq_none_iff,List.find?_eq_none]
 intro u hu
 simp only [decide_eq_true_eq]
 exact h u (List.mem_reverse.1 hu)
theorem aNu:∀ {l:List Un},l.Pairwise (fun u v=>u.nm≠v.nm)→∀ n:List UInt8×Nat,aG5 l (n.1,(n.2:Int))=txtU l n
 | [],_,n=>rfl
 | u::l,h,n=>by
   rw [List.pairwise_cons] at h
   have ih:=aNu h.2 n
   have hk:∀ v:Un,((n.1,(n.2:Int))=(v.title,(v.nth:Int)))↔v.nm=n:=fun v=>by
    obtain ⟨a,b⟩:=n
    simp only [Un.nm,Prod.mk.injEq]
    exact ⟨fun e=>⟨e.1.symm,by omega⟩,fun e=>⟨e.1.symm,by omega⟩⟩
   rw [aUs,aJw]
   by_cases e:u.nm=n
   ·have:aG5 l (n.1,(n.2:Int))=none:=aUe fun v hv hh=>h.1 v hv (e.trans ((hk v).1 hh).symm)
    rw [this,if_pos e]
    simp only [(hk u).2 e,if_true]
   ·rw [if_neg e,← ih]
    cases aG5 l (n.1,(n.2:Int)) with
    | some s=>rfl
    | none=>simp only [show ¬ (n.1,(n.2:Int))=(u.title,(u.nth:Int)) from fun hh=>e ((hk u).1 hh),if_false]
def bIx (P:Program) (F:Nat→Nat):Prop:=∀ l:List U3,l.length≤2^30→(∀ u,u∈l→u.2.2.length≤100000)→(l.map fun u=>u.2.2.length).sum≤2^30→PTr P (F 255) [.lst 3 (l.map u3V)] (.str (jT (l.map fun u=>u.2.2)))
def aUp (cs:List (List UInt8)):V:=ln 1 (cs.map .str)
theorem bDg (cs:List (List UInt8)):(aUp cs).imm=true:=by
 cases cs with
 | nil=>rfl
 | cons c r=>exact aOu (c::r)
def mrgV (m:List UInt8×List (List UInt8)):V:=.tup [.agg [.str m.1,aUp m.2],.int .i64 0]
def OwnS (T:Nat→Nat) (s:St) (N uid:Nat) (v:V) (cs:List (List UInt8)):Prop:=(cs=[]∧v=.nils)∨(cs≠[]∧∃ id,v=.own id 1 0 cs.length∧s.L id=some (.vec (T 21) 1 (cs.map .str))∧N≤id∧id<s.nx∧id≠uid)
theorem OwnS.mono {T:Nat→Nat} {s s':St} {N uid uid':Nat} {v:V} {cs:List (List UInt8)} (h:OwnS T s N uid v cs) (hL:∀ k,N≤k→k≠uid→k<s.nx→s'.L k=s.L k) (hn:s.nx≤s'.nx) (hu:uid'=uid∨s.nx≤uid'):OwnS T s' N uid' v cs:=by
 rcases h with h | ⟨h1,id,h2,h3,h4,h5,h6⟩
 ·exact .inl h
 ·refine .inr ⟨h1,id,h2,by rw [hL id h4 h6 h5]; exact h3,h4,by omega,?_⟩
  rcases hu with rfl | hu
  ·exact h6
  ·omega
theorem aR0:∀ {l:List Un} {u:Un},u∈l→u.text.length≤sumT l
 | v::r,u,h=>by
   have e:sumT (v::r)=v.text.length+sumT r:=by simp [sumT]
   rcases List.mem_cons.1 h with rfl | h
   ·omega
   ·have:=aR0 h
    omega
theorem OwnS.one {T:Nat→Nat} {s:St} {N uid:Nat} {v:V} {cs:List (List UInt8)} (h:OwnS T s N uid v cs):v.one=true:=by
 rcases h with ⟨_,rfl⟩ | ⟨_,id,rfl,_⟩ <;> rfl
theorem OwnS.view {T:Nat→Nat} {s:St} {N uid:Nat} {v:V} {cs:List (List UInt8)} (h:OwnS T s N uid v cs) (L':Heap) (hL:∀ k,N≤k→L' k=s.L k) (n:Nat):Go.Ab.view L' (n+1) v=aUp cs:=by
 rcases h with ⟨rfl,rfl⟩ | ⟨h1,id,rfl,h3,h4,h5,h6⟩
 ·rfl
 ·have:=aFj (n:=n) (sz:=1) ((hL id h4).trans h3) (aOu cs)
  rw [List.length_map] at this
  rw [this]
  cases cs with
  | nil=>exact absurd rfl h1
  | cons c r=>rfl
end Go.Ab
namespace Go.Ab
variable {P:Program} {F T:Nat→Nat}
open Go.Lib
end Go.Ab
namespace Go.Ab
end Go.Ab
namespace Go.Ab
variable {P:Program} {F T:Nat→Nat}
open Go.Lib
end Go.Ab
