/- Several texts of one kind, merged. No condition. -/
import Derived.Test.YtgdllpgidgiccaaGreatDoorAbZ1
import Derived.Test.YtgdllpgidgiccaaGreatDoorAbK1
set_option linter.unusedSimpArgs false
set_option linter.unusedVariables false
namespace Go.Ab
theorem aPp (l:List (List UInt8)):V.imms (l.map V.str)=true:=aG9 _ _ fun t=>rfl
theorem bCf {s:List UInt8} {k:Nat} {t:List UInt8} (h:aN0 s=some (k,t)):t≠[]:=by
 unfold aN0 at h
 split at h
 ·cases h
 ·split at h
  ·cases h
  ·rename_i h2
   simp only [Option.some.injEq,Prod.mk.injEq] at h
   obtain ⟨_,rfl⟩:=h
   exact h2
theorem bDf {s:List UInt8} {p:List Bool} {i:Nat} {x:Sec} (h:x∈aDi s p i):x.title≠[]:=by
 unfold aDi at h
 split at h
 ·split at h
  ·rename_i k t e
   rw [List.mem_singleton.1 h]
   exact bCf e
  ·cases h
 ·cases h
theorem aYb {s:List UInt8} {p:List Bool} {x:Sec}:∀ (n i:Nat),x∈rawF s p n i→x.title≠[]
 | 0,i,h=>by cases h
 | n+1,i,h=>by
   unfold rawF at h
   split at h
   ·rcases List.mem_append.1 h with h | h
    ·exact bDf h
    ·exact aYb n _ h
   ·cases h
theorem bF0 {x:Sec}:∀ (l:List Sec),x∈toF l→∃ y,y∈l∧y.title=x.title
 | [],h=>by cases h
 | y::r,h=>by
   rcases List.mem_cons.1 h with rfl | h
   ·exact ⟨y,by simp,rfl⟩
   ·obtain ⟨z,h1,h2⟩:=bF0 r h
    exact ⟨z,List.mem_cons_of_mem _ h1,h2⟩
theorem bGk {s:List UInt8} {x:Sec} (h:x∈aCc s):x.title≠[]:=by
 obtain ⟨y,h1,h2⟩:=bF0 _ h
 rw [← h2]
 exact aYb _ _ h1
end Go.Ab
namespace Go.Ab
structure Un where
 title:List UInt8
 nth:Nat
 text:List UInt8
def Un.v (u:Un):V:=.agg [.str u.title,.int .i64 u.nth,.str u.text]
def cntT (l:List Sec) (t:List UInt8):Nat:=(l.filter fun y=>decide (y.title=t)).length
def nxF (s:List UInt8):List Sec→Nat
 | []=>s.length
 | y::_=>y.fr
def uGo (s:List UInt8) (p:List Sec):List Sec→List Un
 | []=>[]
 | x::r=>⟨x.title,cntT p x.title,(s.take (nxF s r)).drop x.fr⟩::uGo s (p++[x]) r
def aAg (s:List UInt8):List Un:=⟨[],0,aK1 s⟩::uGo s [] (aCc s)
def anyT (l:List Un):Bool:=l.any fun u=>!decide (u.text=[])
def aG1:List Un→List UInt8
 | []=>[]
 | u::r=>u.text++((if anyT r=true∧u.text≠[]∧u.text.getLast?≠some 10 then [10] else [])++aG1 r)
theorem aT5:∀ {l:List Sec},l.Pairwise (fun x y=>x.bd≤y.fr)→(toF l).Pairwise (fun x y=>x.bd≤y.fr)
 | [],_=>by simp [toF]
 | x::l,h=>by
   rw [List.pairwise_cons] at h
   simp only [toF]
   rw [List.pairwise_cons]
   refine ⟨fun y hy=>?_,aT5 h.2⟩
   obtain ⟨a,y0,r,rfl,rfl⟩:=aSa hy
   exact h.1 y0 (by simp)
theorem aP4 (s:List UInt8):(aCc s).Pairwise (fun x y=>x.bd≤y.fr):=aT5 (aOa s).2
theorem aPr {s:List UInt8} {n:Nat} (h:LSt s n) (h0:0<n) (hn:n≤s.length):(s.take n).getLast?=some 10:=by
 rcases h with h | ⟨_,h⟩
 ·omega
 ·rw [List.getLast?_eq_getElem?,List.length_take,show min n s.length=n by omega,List.getElem?_take,if_pos (by omega),h]
theorem bJl {s:List UInt8}:∀ {l:List Sec},(∀ x,x∈l→SecOk s x)→nxF s l≤s.length
 | [],_=>Nat.le_refl _
 | y::_,h=>by have h1:=h y (by simp); have:=h1.bd; have:=h1.le; have:=h1.to; simp only [nxF]; omega
theorem aRo (s:List UInt8):∀ (l p:List Sec),(∀ x,x∈l→SecOk s x)→l.Pairwise (fun x y=>x.bd≤y.fr)→aG1 (uGo s p l)=s.drop (nxF s l)
 | [],p,_,_=>by simp [uGo,aG1,nxF]
 | x::r,p,h,hp=>by
   rw [List.pairwise_cons] at hp
   have h1:=h x (by simp)
   have hn:=bJl (s:=s) (l:=r) (fun y hy=>h y (by simp [hy]))
   have hlt:x.fr<nxF s r:=by
    have:=h1.bd; have:=h1.le; have:=h1.to
    cases r with
    | nil=>simp only [nxF]; omega
    | cons y r=>have:=hp.1 y (by simp); simp only [nxF]; omega
   rw [uGo,aG1,aRo s r _ (fun y hy=>h y (by simp [hy])) hp.2]
   have hsep:¬ (anyT (uGo s (p++[x]) r)=true∧(s.take (nxF s r)).drop x.fr≠[]∧((s.take (nxF s r)).drop x.fr).getLast?≠some 10):=by
    intro ⟨ha,hb,hc⟩
    cases r with
    | nil=>simp [uGo,anyT] at ha
    | cons y r =>
      apply hc
      have hl:=aPr (h y (by simp)).ls (by simp only [nxF] at hlt; omega) (by simpa only [nxF] using hn)
      simp only [nxF] at hlt hn hl ⊢
      rw [List.getLast?_drop,if_neg (by rw [List.length_take]; omega),hl]
   rw [if_neg hsep]
   simp only [List.nil_append]
   show (s.take (nxF s r)).drop x.fr++s.drop (nxF s r)=s.drop x.fr
   rw [List.drop_take]
   have:s.drop (nxF s r)=(s.drop x.fr).drop (nxF s r-x.fr):=by rw [List.drop_drop]; congr 1; omega
   rw [this,List.take_append_drop]
theorem aM0 (s:List UInt8):aG1 (aAg s)=s:=by
 have hg:=aRo s (aCc s) [] (aI3 s) (aP4 s)
 rw [aAg,aG1,hg]
 cases hl:aCc s with
 | nil=>simp [aK1,hl,nxF,uGo,anyT]
 | cons x r =>
   have h1:=aI3 s x (by rw [hl]; simp)
   have:=h1.bd; have:=h1.le; have:=h1.to
   have hlead:aK1 s=s.take x.fr:=by simp [aK1,hl]
   simp only [hlead,nxF]
   have hsep:¬ (anyT (uGo s [] (x::r))=true∧s.take x.fr≠[]∧(s.take x.fr).getLast?≠some 10):=by
    intro ⟨_,hb,hc⟩
    have h0:0<x.fr:=by
     rcases Nat.eq_zero_or_pos x.fr with h | h
     ·rw [h] at hb; simp at hb
     ·exact h
    exact hc (aPr h1.ls h0 (by omega))
   rw [if_neg hsep,List.nil_append,List.take_append_drop]
end Go.Ab
namespace Go.Ab
abbrev Un.nm (u:Un):List UInt8×Nat:=(u.title,u.nth)
theorem aO4 (p:List Sec) (x:Sec) (t:List UInt8):cntT (p++[x]) t=cntT p t+if x.title=t then 1 else 0:=by
 unfold cntT
 rw [List.filter_append,List.length_append]
 by_cases h:x.title=t <;> simp [h]
theorem bAu (s:List UInt8):∀ (l p:List Sec) (u:Un),u∈uGo s p l→cntT p u.title≤u.nth∧∃ x,x∈l∧x.title=u.title
 | [],_,_,h=>by simp [uGo] at h
 | x::r,p,u,h=>by
   simp only [uGo,List.mem_cons] at h
   rcases h with rfl | h
   ·exact ⟨Nat.le_refl _,x,by simp,rfl⟩
   ·obtain ⟨h1,y,h2,h3⟩:=bAu s r _ u h
    rw [aO4] at h1
    exact ⟨by omega,y,by simp [h2],h3⟩
theorem aQj (s:List UInt8):∀ (l p:List Sec),(uGo s p l).Pairwise (fun u v=>u.nm≠v.nm)
 | [],_=>by simp [uGo]
 | x::r,p=>by
   rw [uGo,List.pairwise_cons]
   refine ⟨fun v hv h=>?_,aQj s r _⟩
   obtain ⟨h1,-⟩:=bAu s r _ v hv
   simp only [Un.nm,Prod.mk.injEq] at h
   obtain ⟨h2,h3⟩:=h
   rw [aO4,if_pos h2,← h2] at h1
   omega
def atU (l:List Un) (n:List UInt8×Nat):Nat:=l.findIdx fun u=>decide (u.nm=n)
def hasU (l:List Un) (n:List UInt8×Nat):Bool:=l.any fun u=>decide (u.nm=n)
def ordG (out:List Un) (prev:List UInt8×Nat):List Un→List Un
 | []=>out
 | u::r=>ordG (if hasU out u.nm=true then out else out.take (atU out prev+1)++u::out.drop (atU out prev+1)) u.nm r
def aDr (o t:List Un):List Un:=ordG o ([],0) t
def txtU (l:List Un) (n:List UInt8×Nat):Option (List UInt8):=(l.find? fun u=>decide (u.nm=n)).map Un.text
def aCz (b o t:Option (List UInt8)):Option (List UInt8)×Bool :=
 if o=t then (o,false) else if o=b then (t,false) else if t=b then (o,false) else if o.isSome then (o,true) else (t,true)
def aKd (b o t:List Un) (l:List Un):List Un:=l.filterMap fun u=>((aCz (txtU b u.nm) (txtU o u.nm) (txtU t u.nm)).1).map fun x=>⟨u.title,u.nth,x⟩
def aGg (b o t:List Un) (l:List Un):List (List UInt8):=(l.filter fun u=>(aCz (txtU b u.nm) (txtU o u.nm) (txtU t u.nm)).2).map Un.title
def aIm (b o t:List UInt8):List UInt8×List (List UInt8) :=
 if o=b∨o=t then (t,[]) else if t=b then (o,[]) else
  let l:=aDr (aAg o) (aAg t)
  (aG1 (aKd (aAg b) (aAg o) (aAg t) l),aGg (aAg b) (aAg o) (aAg t) l)
end Go.Ab
namespace Go.Ab
theorem aF8 (s:List UInt8):(aAg s).Pairwise (fun u v=>u.nm≠v.nm):=by
 rw [aAg,List.pairwise_cons]
 refine ⟨fun v hv h=>?_,aQj s _ _⟩
 obtain ⟨-,x,hx,ht⟩:=bAu s _ _ v hv
 simp only [Un.nm,Prod.mk.injEq] at h
 exact bGk hx (ht.trans h.1.symm)
def insU (l:List Un) (i:Nat) (u:Un):List Un:=l.take i++u::l.drop i
theorem aU6 (l:List Un) (i:Nat) (u:Un) (n:List UInt8×Nat):hasU (insU l i u) n=(decide (u.nm=n)||hasU l n):=by
 unfold hasU insU
 rw [List.any_append,List.any_cons]
 have h:(l.any fun u=>decide (u.nm=n))=(((l.take i).any fun u=>decide (u.nm=n))||((l.drop i).any fun u=>decide (u.nm=n))):=by
  rw [← List.any_append,List.take_append_drop]
 rw [h]
 cases (l.take i).any fun u=>decide (u.nm=n) <;> simp
theorem aZa (s:List UInt8):hasU (aAg s) ([],0)=true:=by simp [aAg,hasU,Un.nm]
theorem aU3:∀ (r out:List Un) (prev:List UInt8×Nat),(∀ u,u∈r→hasU out u.nm=true)→ordG out prev r=out
 | [],_,_,_=>rfl
 | u::r,out,prev,h=>by
   rw [ordG,if_pos (h u (by simp))]
   exact aU3 r out _ (fun v hv=>h v (by simp [hv]))
end Go.Ab
namespace Go.Ab
def aOl (b o t:List Un) (l:List (List UInt8×Nat)):List Un:=l.filterMap fun n=>((aCz (txtU b n) (txtU o n) (txtU t n)).1).map fun x=>⟨n.1,n.2,x⟩
theorem aKg (b o t l:List Un):aKd b o t l=aOl b o t (l.map Un.nm):=by
 unfold aKd aOl
 rw [List.filterMap_map]
 rfl
def aY2 (b o t:List Un) (l:List (List UInt8×Nat)):List (List UInt8):=(l.filter fun n=>(aCz (txtU b n) (txtU o n) (txtU t n)).2).map Prod.fst
theorem aZb (b o t l:List Un):aGg b o t l=aY2 b o t (l.map Un.nm):=by
 unfold aGg aY2
 rw [List.filter_map,List.map_map]
 rfl
theorem aOv {l:List Un} {n:List UInt8×Nat}:hasU l n=true↔n∈l.map Un.nm:=by
 unfold hasU
 rw [List.any_eq_true,List.mem_map]
 constructor
 ·rintro ⟨u,hu,h⟩; exact ⟨u,hu,by simpa using h⟩
 ·rintro ⟨u,hu,h⟩; exact ⟨u,hu,by simpa using h⟩
theorem aVz {o t:List Un} (h:o.map Un.nm=t.map Un.nm):aDr o t=o:=aU3 _ _ _ fun u hu=>by
 rw [aOv,h]
 exact List.mem_map_of_mem hu
end Go.Ab
namespace Go.Ab
def knM0:List UInt8:=[61,61,32,65,32,61,61,10,97,10,61,61,32,66,32,61,61,10,98,10]
def knM1:List UInt8:=[61,61,32,65,32,61,61,10,120,10,61,61,32,66,32,61,61,10,98,10]
def knM2:List UInt8:=[61,61,32,65,32,61,61,10,97,10,61,61,32,66,32,61,61,10,121,10]
def knM3:List UInt8:=[61,61,32,65,32,61,61,10,120,10,61,61,32,66,32,61,61,10,121,10]
theorem knM:aIm knM0 knM1 knM2=(knM3,[]):=by kernel_rfl
end Go.Ab
namespace Go.Ab
def sumT (l:List Un):Nat:=(l.map fun u=>u.text.length).sum
theorem aIj:∀ l:List Un,sumT l≤(aG1 l).length∧(aG1 l).length≤sumT l+l.length
 | []=>by simp [aG1,sumT]
 | u::r=>by
   obtain ⟨h1,h2⟩:=aIj r
   unfold sumT at h1 h2 ⊢
   rw [aG1]
   simp only [List.length_append,List.map_cons,List.sum_cons,List.length_cons]
   split <;> simp only [List.length_cons,List.length_nil] <;> omega
theorem aKz (s:List UInt8):sumT (aAg s)≤s.length:=by
 have h:=(aIj (aAg s)).1
 rwa [aM0] at h
def lenO (x:Option (List UInt8)):Nat:=(x.getD []).length
theorem aKy (u:Un) (l:List Un) (n:List UInt8×Nat):txtU (u::l) n=if u.nm=n then some u.text else txtU l n:=by
 unfold txtU
 rw [List.find?_cons]
 by_cases h:u.nm=n
 ·simp [h]
 ·simp [h]
theorem aOf (f g:List UInt8×Nat→Nat):∀ N:List (List UInt8×Nat),(N.map fun n=>f n+g n).sum=(N.map f).sum+(N.map g).sum
 | []=>rfl
 | n::N=>by simp only [List.map_cons,List.sum_cons,aOf f g N]; omega
theorem bFj (f g:List UInt8×Nat→Nat) (h:∀ n,f n≤g n):∀ N:List (List UInt8×Nat),(N.map f).sum≤(N.map g).sum
 | []=>Nat.le_refl _
 | n::N=>by have:=bFj f g h N; have:=h n; simp only [List.map_cons,List.sum_cons]; omega
theorem aZ3 (m:List UInt8×Nat) (k:Nat):∀ {N:List (List UInt8×Nat)},N.Pairwise (·≠·)→(N.map fun n=>if m=n then k else 0).sum≤k∧(m∉N→(N.map fun n=>if m=n then k else 0).sum=0)
 | [],_=>by simp
 | n::N,h=>by
   rw [List.pairwise_cons] at h
   obtain ⟨h1,h2⟩:=aZ3 m k h.2
   simp only [List.map_cons,List.sum_cons,List.mem_cons,not_or]
   by_cases e:m=n
   ·subst e
    have h3:=h2 (fun hm=>h.1 m hm rfl)
    simp only [if_true]
    refine ⟨by omega,fun hh=>absurd trivial hh.1⟩
   ·simp only [e,if_false]
    exact ⟨by omega,fun hh=>by have:=h2 hh.2; omega⟩
theorem aOd {N:List (List UInt8×Nat)} (h:N.Pairwise (·≠·)):∀ l:List Un,(N.map fun n=>lenO (txtU l n)).sum≤sumT l
 | []=>by
   have h0:∀ N:List (List UInt8×Nat),(N.map fun n=>lenO (txtU [] n)).sum=0:=by
    intro N
    induction N with
    | nil=>rfl
    | cons n N ih=>simp only [List.map_cons,List.sum_cons,ih]; rfl
   rw [h0]; exact Nat.zero_le _
 | u::l=>by
   have ih:=aOd h l
   have h1:=(aZ3 u.nm u.text.length h).1
   have h2:(N.map fun n=>lenO (txtU (u::l) n)).sum≤(N.map fun n=>(if u.nm=n then u.text.length else 0)+lenO (txtU l n)).sum:=by
    apply bFj (fun n=>lenO (txtU (u::l) n)) (fun n=>(if u.nm=n then u.text.length else 0)+lenO (txtU l n))
    intro n
    simp only [aKy]
    by_cases e:u.nm=n
    ·simp only [e,if_true,lenO,Option.getD_some]; omega
    ·simp only [e,if_false]; omega
   rw [aOf (fun n=>if u.nm=n then u.text.length else 0) (fun n=>lenO (txtU l n))] at h2
   unfold sumT at ih ⊢
   simp only [List.map_cons,List.sum_cons]
   omega
theorem aVu (b o t:Option (List UInt8)):lenO (aCz b o t).1≤lenO b+(lenO o+lenO t):=by
 unfold aCz
 split
 ·simp only []; omega
 ·split
  ·simp only []; omega
  ·split
   ·simp only []; omega
   ·split <;> simp only [] <;> omega
theorem aIe (b o t:List Un):∀ N:List (List UInt8×Nat),sumT (aOl b o t N)≤(N.map fun n=>lenO (txtU b n)+(lenO (txtU o n)+lenO (txtU t n))).sum∧(aOl b o t N).length≤N.length
 | []=>by simp [aOl,sumT]
 | n::N=>by
   obtain ⟨h1,h2⟩:=aIe b o t N
   have h3:=aVu (txtU b n) (txtU o n) (txtU t n)
   unfold sumT aOl at h1 ⊢
   unfold aOl at h2
   rw [List.filterMap_cons]
   cases hc:(aCz (txtU b n) (txtU o n) (txtU t n)).1 with
   | none=>simp only [Option.map_none,List.map_cons,List.sum_cons,List.length_cons]; exact ⟨by omega,by omega⟩
   | some x =>
     rw [hc] at h3
     simp only [lenO,Option.getD_some] at h3
     simp only [Option.map_some,List.map_cons,List.sum_cons,List.length_cons]
     unfold lenO at h1 ⊢
     exact ⟨by omega,by omega⟩
end Go.Ab
namespace Go.Ab
theorem bAw {l:List Un} {i:Nat} {u:Un} (h:(l.map Un.nm).Pairwise (·≠·)) (hu:hasU l u.nm≠true):((insU l i u).map Un.nm).Pairwise (·≠·)∧(insU l i u).length=l.length+1:=by
 have hn:u.nm∉l.map Un.nm:=fun hm=>hu (aOv.2 hm)
 constructor
 ·have hp:(insU l i u).Perm (u::l):=by
   unfold insU
   exact List.perm_middle.trans (List.Perm.cons _ (by rw [List.take_append_drop]))
  have h2:((u::l).map Un.nm).Nodup:=by
   rw [List.map_cons,List.nodup_cons]
   exact ⟨hn,h⟩
  exact (hp.map Un.nm).nodup_iff.2 h2
 ·unfold insU
  rw [List.length_append,List.length_cons,List.length_take,List.length_drop]
  omega
theorem aFy:∀ (r out:List Un) (prev:List UInt8×Nat),(out.map Un.nm).Pairwise (·≠·)→((ordG out prev r).map Un.nm).Pairwise (·≠·)∧(ordG out prev r).length≤out.length+r.length
 | [],out,_,h=>⟨h,Nat.le_refl _⟩
 | u::r,out,prev,h=>by
   rw [ordG]
   by_cases hh:hasU out u.nm=true
   ·rw [if_pos hh]
    have:=aFy r out u.nm h
    exact ⟨this.1,by have:=this.2; simp only [List.length_cons]; omega⟩
   ·rw [if_neg hh]
    have h1:=bAw (i:=atU out prev+1) h hh
    have h2:=aFy r (insU out (atU out prev+1) u) u.nm h1.1
    exact ⟨h2.1,by have:=h2.2; rw [h1.2] at this; simp only [List.length_cons]; unfold insU at this; omega⟩
theorem aY0 (s:List UInt8):∀ (l p:List Sec),(uGo s p l).length=l.length
 | [],_=>rfl
 | x::r,p=>by rw [uGo,List.length_cons,List.length_cons,aY0 s r]
theorem aFq (s:List UInt8):(aAg s).length≤s.length+1:=by
 have:=aU8 s
 rw [aAg,List.length_cons,aY0]
 omega
theorem bBj (b x y:List UInt8):(aIm b x y).1.length≤b.length+2*x.length+2*y.length+2:=by
 unfold aIm
 split
 ·simp only []; omega
 ·split
  ·simp only []; omega
  ·simp only [aKg]
   have h1:=aFy (aAg y) (aAg x) ([],0) (List.pairwise_map.2 (aF8 x))
   have h2:=aIe (aAg b) (aAg x) (aAg y) ((aDr (aAg x) (aAg y)).map Un.nm)
   have h3:=(aIj (aOl (aAg b) (aAg x) (aAg y) ((aDr (aAg x) (aAg y)).map Un.nm))).2
   have e:=h2.1
   rw [aOf (fun n=>lenO (txtU (aAg b) n)) (fun n=>lenO (txtU (aAg x) n)+lenO (txtU (aAg y) n)),aOf (fun n=>lenO (txtU (aAg x) n)) (fun n=>lenO (txtU (aAg y) n))] at e
   have s1:=aOd h1.1 (aAg b)
   have s2:=aOd h1.1 (aAg x)
   have s3:=aOd h1.1 (aAg y)
   have t1:=aKz b
   have t2:=aKz x
   have t3:=aKz y
   have l1:=aFq x
   have l2:=aFq y
   have l3:=h1.2
   have l4:=h2.2
   rw [List.length_map] at l4
   unfold aDr at *
   omega
end Go.Ab
