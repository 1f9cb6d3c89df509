/- Several texts of one kind, merged. No condition. -/
import Derived.Test.YtgdllpgidgiccaaGreatDoorAbZ1
import Derived.Test.YtgdllpgidgiccaaGreatDoorAbK1
set_option linter.unusedSimpArgs false
set_option linter.unusedVariables false
namespace Go.Ab
theorem aGw (l:List (List UInt8)):V.imms (l.map V.str)=true:=aHj _ _ fun t=>rfl
theorem bE3 {s:List UInt8} {k:Nat} {t:List UInt8} (h:aZk s=some (k,t)):t≠[]:=by
 unfold aZk at h
 split at h
 ·cases h
 ·split at h
  ·cases h
  ·rename_i h2
   simp only [Option.some.injEq,Prod.mk.injEq] at h
   obtain ⟨_,rfl⟩:=h
   exact h2
theorem bCv {s:List UInt8} {p:List Bool} {i:Nat} {x:Sec} (h:x∈aDc s p i):x.title≠[]:=by
 unfold aDc at h
 split at h
 ·split at h
  ·rename_i k t e
   rw [List.mem_singleton.1 h]
   exact bE3 e
  ·cases h
 ·cases h
theorem bBs {s:List UInt8} {p:List Bool} {x:Sec}:∀ (n i:Nat),x∈rawF s p n i→x.title≠[]
 | 0,i,h=>by cases h
 | n+1,i,h=>by
   unfold rawF at h
   split at h
   ·rcases List.mem_append.1 h with h | h
    ·exact bCv h
    ·exact bBs n _ h
   ·cases h
theorem bFr {x:Sec}:∀ (l:List Sec),x∈toF l→∃ y,y∈l∧y.title=x.title
 | [],h=>by cases h
 | y::r,h=>by
   rcases List.mem_cons.1 h with rfl | h
   ·exact ⟨y,by simp,rfl⟩
   ·obtain ⟨z,h1,h2⟩:=bFr r h
    exact ⟨z,List.mem_cons_of_mem _ h1,h2⟩
theorem bGu {s:List UInt8} {x:Sec} (h:x∈aEn s):x.title≠[]:=by
 obtain ⟨y,h1,h2⟩:=bFr _ h
 rw [← h2]
 exact bBs _ _ h1
end Go.Ab
namespace Go.Ab
structure Un where
 title:List UInt8
 nth:Nat
 text:List UInt8
def Un.v (u:Un):V:=.agg [.str u.title,.int .i64 u.nth,.str u.text]
def cntT (l:List Sec) (t:List UInt8):Nat:=(l.filter fun y=>decide (y.title=t)).length
def nxF (s:List UInt8):List Sec→Nat
 | []=>s.length
 | y::_=>y.fr
def uGo (s:List UInt8) (p:List Sec):List Sec→List Un
 | []=>[]
 | x::r=>⟨x.title,cntT p x.title,(s.take (nxF s r)).drop x.fr⟩::uGo s (p++[x]) r
def aAc (s:List UInt8):List Un:=⟨[],0,aI8 s⟩::uGo s [] (aEn s)
def anyT (l:List Un):Bool:=l.any fun u=>!decide (u.text=[])
def aG2:List Un→List UInt8
 | []=>[]
 | u::r=>u.text++((if anyT r=true∧u.text≠[]∧u.text.getLast?≠some 10 then [10] else [])++aG2 r)
theorem aVj:∀ {l:List Sec},l.Pairwise (fun x y=>x.bd≤y.fr)→(toF l).Pairwise (fun x y=>x.bd≤y.fr)
 | [],_=>by simp [toF]
 | x::l,h=>by
   rw [List.pairwise_cons] at h
   simp only [toF]
   rw [List.pairwise_cons]
   refine ⟨fun y hy=>?_,aVj h.2⟩
   obtain ⟨a,y0,r,rfl,rfl⟩:=aS4 hy
   exact h.1 y0 (by simp)
theorem aLy (s:List UInt8):(aEn s).Pairwise (fun x y=>x.bd≤y.fr):=aVj (aOm s).2
theorem aPr {s:List UInt8} {n:Nat} (h:LSt s n) (h0:0<n) (hn:n≤s.length):(s.take n).getLast?=some 10:=by
 rcases h with h | ⟨_,h⟩
 ·omega
 ·rw [List.getLast?_eq_getElem?,List.length_take,show min n s.length=n by omega,List.getElem?_take,if_pos (by omega),h]
theorem bGb {s:List UInt8}:∀ {l:List Sec},(∀ x,x∈l→SecOk s x)→nxF s l≤s.length
 | [],_=>Nat.le_refl _
 | y::_,h=>by have h1:=h y (by simp); have:=h1.bd; have:=h1.le; have:=h1.to; simp only [nxF]; omega
theorem aQt (s:List UInt8):∀ (l p:List Sec),(∀ x,x∈l→SecOk s x)→l.Pairwise (fun x y=>x.bd≤y.fr)→aG2 (uGo s p l)=s.drop (nxF s l)
 | [],p,_,_=>by simp [uGo,aG2,nxF]
 | x::r,p,h,hp=>by
   rw [List.pairwise_cons] at hp
   have h1:=h x (by simp)
   have hn:=bGb (s:=s) (l:=r) (fun y hy=>h y (by simp [hy]))
   have hlt:x.fr<nxF s r:=by
    have:=h1.bd; have:=h1.le; have:=h1.to
    cases r with
    | nil=>simp only [nxF]; omega
    | cons y r=>have:=hp.1 y (by simp); simp only [nxF]; omega
   rw [uGo,aG2,aQt s r _ (fun y hy=>h y (by simp [hy])) hp.2]
   have hsep:¬ (anyT (uGo s (p++[x]) r)=true∧(s.take (nxF s r)).drop x.fr≠[]∧((s.take (nxF s r)).drop x.fr).getLast?≠some 10):=by
    intro ⟨ha,hb,hc⟩
    cases r with
    | nil=>simp [uGo,anyT] at ha
    | cons y r =>
      apply hc
      have hl:=aPr (h y (by simp)).ls (by simp only [nxF] at hlt; omega) (by simpa only [nxF] using hn)
      simp only [nxF] at hlt hn hl ⊢
      rw [List.getLast?_drop,if_neg (by rw [List.length_take]; omega),hl]
   rw [if_neg hsep]
   simp only [List.nil_append]
   show (s.take (nxF s r)).drop x.fr++s.drop (nxF s r)=s.drop x.fr
   rw [List.drop_take]
   have:s.drop (nxF s r)=(s.drop x.fr).drop (nxF s r-x.fr):=by rw [List.drop_drop]; congr 1; omega
   rw [this,List.take_append_drop]
theorem aXd (s:List UInt8):aG2 (aAc s)=s:=by
 have hg:=aQt s (aEn s) [] (aJy s) (aLy s)
 rw [aAc,aG2,hg]
 cases hl:aEn s with
 | nil=>simp [aI8,hl,nxF,uGo,anyT]
 | cons x r =>
   have h1:=aJy s x (by rw [hl]; simp)
   have:=h1.bd; have:=h1.le; have:=h1.to
   have hlead:aI8 s=s.take x.fr:=by simp [aI8,hl]
   simp only [hlead,nxF]
   have hsep:¬ (anyT (uGo s [] (x::r))=true∧s.take x.fr≠[]∧(s.take x.fr).getLast?≠some 10):=by
    intro ⟨_,hb,hc⟩
    have h0:0<x.fr:=by
     rcases Nat.eq_zero_or_pos x.fr with h | h
     ·rw [h] at hb; simp at hb
     ·exact h
    exact hc (aPr h1.ls h0 (by omega))
   rw [if_neg hsep,List.nil_append,List.take_append_drop]
end Go.Ab
namespace Go.Ab
abbrev Un.nm (u:Un):List UInt8×Nat:=(u.title,u.nth)
theorem aIx (p:List Sec) (x:Sec) (t:List UInt8):cntT (p++[x]) t=cntT p t+if x.title=t then 1 else 0:=by
 unfold cntT
 rw [List.filter_append,List.length_append]
 by_cases h:x.title=t <;> simp [h]
theorem aYr (s:List UInt8):∀ (l p:List Sec) (u:Un),u∈uGo s p l→cntT p u.title≤u.nth∧∃ x,x∈l∧x.title=u.title
 | [],_,_,h=>by simp [uGo] at h
 | x::r,p,u,h=>by
   simp only [uGo,List.mem_cons] at h
   rcases h with rfl | h
   ·exact ⟨Nat.le_refl _,x,by simp,rfl⟩
   ·obtain ⟨h1,y,h2,h3⟩:=aYr s r _ u h
    rw [aIx] at h1
    exact ⟨by omega,y,by simp [h2],h3⟩
theorem aQx (s:List UInt8):∀ (l p:List Sec),(uGo s p l).Pairwise (fun u v=>u.nm≠v.nm)
 | [],_=>by simp [uGo]
 | x::r,p=>by
   rw [uGo,List.pairwise_cons]
   refine ⟨fun v hv h=>?_,aQx s r _⟩
   obtain ⟨h1,-⟩:=aYr s r _ v hv
   simp only [Un.nm,Prod.mk.injEq] at h
   obtain ⟨h2,h3⟩:=h
   rw [aIx,if_pos h2,← h2] at h1
   omega
def atU (l:List Un) (n:List UInt8×Nat):Nat:=l.findIdx fun u=>decide (u.nm=n)
def hasU (l:List Un) (n:List UInt8×Nat):Bool:=l.any fun u=>decide (u.nm=n)
def ordG (out:List Un) (prev:List UInt8×Nat):List Un→List Un
 | []=>out
 | u::r=>ordG (if hasU out u.nm=true then out else out.take (atU out prev+1)++u::out.drop (atU out prev+1)) u.nm r
def aCk (o t:List Un):List Un:=ordG o ([],0) t
def txtU (l:List Un) (n:List UInt8×Nat):Option (List UInt8):=(l.find? fun u=>decide (u.nm=n)).map Un.text
def aB6 (b o t:Option (List UInt8)):Option (List UInt8)×Bool :=
 if o=t then (o,false) else if o=b then (t,false) else if t=b then (o,false) else if o.isSome then (o,true) else (t,true)
theorem aR8 {b o t:Option (List UInt8)} (h:(aB6 b o t).2=false):aB6 b t o=aB6 b o t:=by
 unfold aB6 at h ⊢
 by_cases h1:o=t
 ·simp [h1]
 ·have h1':¬ t=o:=fun e=>h1 e.symm
  by_cases h2:o=b
  ·by_cases h3:t=b
   ·exact absurd (h2.trans h3.symm) h1
   ·subst h2; simp [h1,h1',h3]
  ·by_cases h3:t=b
   ·simp [h1,h1',h2,h3]
   ·exfalso
    rw [if_neg h1,if_neg h2,if_neg h3] at h
    split at h <;> simp at h
theorem aQk {b o t:Option (List UInt8)} (h:(aB6 b o t).2=true):o≠t∧o≠b∧t≠b:=by
 unfold aB6 at h
 by_cases h1:o=t
 ·simp [h1] at h
 ·by_cases h2:o=b
  ·rw [if_neg h1,if_pos h2] at h; simp at h
  ·by_cases h3:t=b
   ·rw [if_neg h1,if_neg h2,if_pos h3] at h; simp at h
   ·exact ⟨h1,h2,h3⟩
def aLf (b o t:List Un) (l:List Un):List Un:=l.filterMap fun u=>((aB6 (txtU b u.nm) (txtU o u.nm) (txtU t u.nm)).1).map fun x=>⟨u.title,u.nth,x⟩
def aFz (b o t:List Un) (l:List Un):List (List UInt8):=(l.filter fun u=>(aB6 (txtU b u.nm) (txtU o u.nm) (txtU t u.nm)).2).map Un.title
def aCy (b o t:List UInt8):List UInt8×List (List UInt8) :=
 if o=b∨o=t then (t,[]) else if t=b then (o,[]) else
  let l:=aCk (aAc o) (aAc t)
  (aG2 (aLf (aAc b) (aAc o) (aAc t) l),aFz (aAc b) (aAc o) (aAc t) l)
end Go.Ab
namespace Go.Ab
theorem aD6 (s:List UInt8):(aAc s).Pairwise (fun u v=>u.nm≠v.nm):=by
 rw [aAc,List.pairwise_cons]
 refine ⟨fun v hv h=>?_,aQx s _ _⟩
 obtain ⟨-,x,hx,ht⟩:=aYr s _ _ v hv
 simp only [Un.nm,Prod.mk.injEq] at h
 exact bGu hx (ht.trans h.1.symm)
def insU (l:List Un) (i:Nat) (u:Un):List Un:=l.take i++u::l.drop i
theorem aNx (l:List Un) (i:Nat) (u:Un) (n:List UInt8×Nat):hasU (insU l i u) n=(decide (u.nm=n)||hasU l n):=by
 unfold hasU insU
 rw [List.any_append,List.any_cons]
 have h:(l.any fun u=>decide (u.nm=n))=(((l.take i).any fun u=>decide (u.nm=n))||((l.drop i).any fun u=>decide (u.nm=n))):=by
  rw [← List.any_append,List.take_append_drop]
 rw [h]
 cases (l.take i).any fun u=>decide (u.nm=n) <;> simp
theorem aZ1 (s:List UInt8):hasU (aAc s) ([],0)=true:=by simp [aAc,hasU,Un.nm]
theorem aVi:∀ (r out:List Un) (prev:List UInt8×Nat),(∀ u,u∈r→hasU out u.nm=true)→ordG out prev r=out
 | [],_,_,_=>rfl
 | u::r,out,prev,h=>by
   rw [ordG,if_pos (h u (by simp))]
   exact aVi r out _ (fun v hv=>h v (by simp [hv]))
end Go.Ab
namespace Go.Ab
def aLj (b o t:List Un) (l:List (List UInt8×Nat)):List Un:=l.filterMap fun n=>((aB6 (txtU b n) (txtU o n) (txtU t n)).1).map fun x=>⟨n.1,n.2,x⟩
theorem aK1 (b o t l:List Un):aLf b o t l=aLj b o t (l.map Un.nm):=by
 unfold aLf aLj
 rw [List.filterMap_map]
 rfl
def aP2 (b o t:List Un) (l:List (List UInt8×Nat)):List (List UInt8):=(l.filter fun n=>(aB6 (txtU b n) (txtU o n) (txtU t n)).2).map Prod.fst
theorem aRf (b o t l:List Un):aFz b o t l=aP2 b o t (l.map Un.nm):=by
 unfold aFz aP2
 rw [List.filter_map,List.map_map]
 rfl
theorem aRu {b o t:List Un} {l:List (List UInt8×Nat)} (h:aP2 b o t l=[]):∀ n,n∈l→(aB6 (txtU b n) (txtU o n) (txtU t n)).2=false:=by
 intro n hn
 unfold aP2 at h
 rw [List.map_eq_nil_iff,List.filter_eq_nil_iff] at h
 have:=h n hn
 simpa using this
theorem aM0 {b o t:List Un}:∀ {l:List (List UInt8×Nat)},(∀ n,n∈l→(aB6 (txtU b n) (txtU o n) (txtU t n)).2=false)→aLj b t o l=aLj b o t l
 | [],_=>rfl
 | n::l,h=>by
   have h1:=aR8 (h n (by simp))
   have ih:=aM0 (b:=b) (o:=o) (t:=t) (l:=l) (fun m hm=>h m (by simp [hm]))
   unfold aLj at ih ⊢
   rw [List.filterMap_cons,List.filterMap_cons,h1,ih]
theorem aGa {l:List Un} {n:List UInt8×Nat}:hasU l n=true↔n∈l.map Un.nm:=by
 unfold hasU
 rw [List.any_eq_true,List.mem_map]
 constructor
 ·rintro ⟨u,hu,h⟩; exact ⟨u,hu,by simpa using h⟩
 ·rintro ⟨u,hu,h⟩; exact ⟨u,hu,by simpa using h⟩
theorem aNb {o t:List Un} (h:o.map Un.nm=t.map Un.nm):aCk o t=o:=aVi _ _ _ fun u hu=>by
 rw [aGa,h]
 exact List.mem_map_of_mem hu
theorem bN5 {b x y:List UInt8} (hn:(aAc x).map Un.nm=(aAc y).map Un.nm) (hc:(aCy b x y).2=[]):(aCy b x y).1=(aCy b y x).1:=by
 unfold aCy at hc ⊢
 by_cases h1:x=y
 ·subst h1; simp
 have h1':¬ y=x:=fun e=>h1 e.symm
 by_cases h2:x=b
 ·subst h2
  simp [h1,h1']
 by_cases h3:y=b
 ·subst h3
  simp [h1,h1']
 simp only [h1,h1',h2,h3,or_self,if_false] at hc ⊢
 rw [aNb hn] at hc ⊢
 rw [aNb hn.symm]
 simp only [aK1,aRf] at hc ⊢
 rw [← hn,aM0 (aRu hc)]
theorem bAp {b x y t:List UInt8} (h:t∈(aCy b x y).2):∃ n u,u∈aCk (aAc x) (aAc y)∧u.nm=n∧n.1=t∧txtU (aAc x) n≠txtU (aAc y) n∧txtU (aAc x) n≠txtU (aAc b) n∧txtU (aAc y) n≠txtU (aAc b) n:=by
 unfold aCy at h
 split at h
 ·simp at h
 ·split at h
  ·simp at h
  ·simp only [aFz,List.mem_map,List.mem_filter] at h
   obtain ⟨u,⟨h1,h2⟩,h3⟩:=h
   exact ⟨u.nm,u,h1,rfl,h3,aQk h2⟩
end Go.Ab
namespace Go.Ab
def knM0:List UInt8:=[61,61,32,65,32,61,61,10,97,10,61,61,32,66,32,61,61,10,98,10]
def knM1:List UInt8:=[61,61,32,65,32,61,61,10,120,10,61,61,32,66,32,61,61,10,98,10]
def knM2:List UInt8:=[61,61,32,65,32,61,61,10,97,10,61,61,32,66,32,61,61,10,121,10]
def knM3:List UInt8:=[61,61,32,65,32,61,61,10,120,10,61,61,32,66,32,61,61,10,121,10]
theorem knM:aCy knM0 knM1 knM2=(knM3,[]):=by kernel_rfl
end Go.Ab
namespace Go.Ab
def sumT (l:List Un):Nat:=(l.map fun u=>u.text.length).sum
theorem aI3:∀ l:List Un,sumT l≤(aG2 l).length∧(aG2 l).length≤sumT l+l.length
 | []=>by simp [aG2,sumT]
 | u::r=>by
   obtain ⟨h1,h2⟩:=aI3 r
   unfold sumT at h1 h2 ⊢
   rw [aG2]
   simp only [List.length_append,List.map_cons,List.sum_cons,List.length_cons]
   split <;> simp only [List.length_cons,List.length_nil] <;> omega
theorem aFv (s:List UInt8):sumT (aAc s)≤s.length:=by
 have h:=(aI3 (aAc s)).1
 rwa [aXd] at h
def lenO (x:Option (List UInt8)):Nat:=(x.getD []).length
theorem aLl (u:Un) (l:List Un) (n:List UInt8×Nat):txtU (u::l) n=if u.nm=n then some u.text else txtU l n:=by
 unfold txtU
 rw [List.find?_cons]
 by_cases h:u.nm=n
 ·simp [h]
 ·simp [h]
theorem aOr (f g:List UInt8×Nat→Nat):∀ N:List (List UInt8×Nat),(N.map fun n=>f n+g n).sum=(N.map f).sum+(N.map g).sum
 | []=>rfl
 | n::N=>by simp only [List.map_cons,List.sum_cons,aOr f g N]; omega
theorem bGc (f g:List UInt8×Nat→Nat) (h:∀ n,f n≤g n):∀ N:List (List UInt8×Nat),(N.map f).sum≤(N.map g).sum
 | []=>Nat.le_refl _
 | n::N=>by have:=bGc f g h N; have:=h n; simp only [List.map_cons,List.sum_cons]; omega
theorem aZz (m:List UInt8×Nat) (k:Nat):∀ {N:List (List UInt8×Nat)},N.Pairwise (·≠·)→(N.map fun n=>if m=n then k else 0).sum≤k∧(m∉N→(N.map fun n=>if m=n then k else 0).sum=0)
 | [],_=>by simp
 | n::N,h=>by
   rw [List.pairwise_cons] at h
   obtain ⟨h1,h2⟩:=aZz m k h.2
   simp only [List.map_cons,List.sum_cons,List.mem_cons,not_or]
   by_cases e:m=n
   ·subst e
    have h3:=h2 (fun hm=>h.1 m hm rfl)
    simp only [if_true]
    refine ⟨by omega,fun hh=>absurd trivial hh.1⟩
   ·simp only [e,if_false]
    exact ⟨by omega,fun hh=>by have:=h2 hh.2; omega⟩
theorem aN5 {N:List (List UInt8×Nat)} (h:N.Pairwise (·≠·)):∀ l:List Un,(N.map fun n=>lenO (txtU l n)).sum≤sumT l
 | []=>by
   have h0:∀ N:List (List UInt8×Nat),(N.map fun n=>lenO (txtU [] n)).sum=0:=by
    intro N
    induction N with
    | nil=>rfl
    | cons n N ih=>simp only [List.map_cons,List.sum_cons,ih]; rfl
   rw [h0]; exact Nat.zero_le _
 | u::l=>by
   have ih:=aN5 h l
   have h1:=(aZz u.nm u.text.length h).1
   have h2:(N.map fun n=>lenO (txtU (u::l) n)).sum≤(N.map fun n=>(if u.nm=n then u.text.length else 0)+lenO (txtU l n)).sum:=by
    apply bGc (fun n=>lenO (txtU (u::l) n)) (fun n=>(if u.nm=n then u.text.length else 0)+lenO (txtU l n))
    intro n
    simp only [aLl]
    by_cases e:u.nm=n
    ·simp only [e,if_true,lenO,Option.getD_some]; omega
    ·simp only [e,if_false]; omega
   rw [aOr (fun n=>if u.nm=n then u.text.length else 0) (fun n=>lenO (txtU l n))] at h2
   unfold sumT at ih ⊢
   simp only [List.map_cons,List.sum_cons]
   omega
theorem aX5 (b o t:Option (List UInt8)):lenO (aB6 b o t).1≤lenO b+(lenO o+lenO t):=by
 unfold aB6
 split
 ·simp only []; omega
 ·split
  ·simp only []; omega
  ·split
   ·simp only []; omega
   ·split <;> simp only [] <;> omega
theorem aIo (b o t:List Un):∀ N:List (List UInt8×Nat),sumT (aLj b o t N)≤(N.map fun n=>lenO (txtU b n)+(lenO (txtU o n)+lenO (txtU t n))).sum∧(aLj b o t N).length≤N.length
 | []=>by simp [aLj,sumT]
 | n::N=>by
   obtain ⟨h1,h2⟩:=aIo b o t N
   have h3:=aX5 (txtU b n) (txtU o n) (txtU t n)
   unfold sumT aLj at h1 ⊢
   unfold aLj at h2
   rw [List.filterMap_cons]
   cases hc:(aB6 (txtU b n) (txtU o n) (txtU t n)).1 with
   | none=>simp only [Option.map_none,List.map_cons,List.sum_cons,List.length_cons]; exact ⟨by omega,by omega⟩
   | some x =>
     rw [hc] at h3
     simp only [lenO,Option.getD_some] at h3
     simp only [Option.map_some,List.map_cons,List.sum_cons,List.length_cons]
     unfold lenO at h1 ⊢
     exact ⟨by omega,by omega⟩
end Go.Ab
namespace Go.Ab
theorem bBt {l:List Un} {i:Nat} {u:Un} (h:(l.map Un.nm).Pairwise (·≠·)) (hu:hasU l u.nm≠true):((insU l i u).map Un.nm).Pairwise (·≠·)∧(insU l i u).length=l.length+1:=by
 have hn:u.nm∉l.map Un.nm:=fun hm=>hu (aGa.2 hm)
 constructor
 ·have hp:(insU l i u).Perm (u::l):=by
   unfold insU
   exact List.perm_middle.trans (List.Perm.cons _ (by rw [List.take_append_drop]))
  have h2:((u::l).map Un.nm).Nodup:=by
   rw [List.map_cons,List.nodup_cons]
   exact ⟨hn,h⟩
  exact (hp.map Un.nm).nodup_iff.2 h2
 ·unfold insU
  rw [List.length_append,List.length_cons,List.length_take,List.length_drop]
  omega
theorem aD9:∀ (r out:List Un) (prev:List UInt8×Nat),(out.map Un.nm).Pairwise (·≠·)→((ordG out prev r).map Un.nm).Pairwise (·≠·)∧(ordG out prev r).length≤out.length+r.length
 | [],out,_,h=>⟨h,Nat.le_refl _⟩
 | u::r,out,prev,h=>by
   rw [ordG]
   by_cases hh:hasU out u.nm=true
   ·rw [if_pos hh]
    have:=aD9 r out u.nm h
    exact ⟨this.1,by have:=this.2; simp only [List.length_cons]; omega⟩
   ·rw [if_neg hh]
    have h1:=bBt (i:=atU out prev+1) h hh
    have h2:=aD9 r (insU out (atU out prev+1) u) u.nm h1.1
    exact ⟨h2.1,by have:=h2.2; rw [h1.2] at this; simp only [List.length_cons]; unfold insU at this; omega⟩
theorem bA8 (s:List UInt8):∀ (l p:List Sec),(uGo s p l).length=l.length
 | [],_=>rfl
 | x::r,p=>by rw [uGo,List.length_cons,List.length_cons,bA8 s r]
theorem aCt (s:List UInt8):(aAc s).length≤s.length+1:=by
 have:=aPd s
 rw [aAc,List.length_cons,bA8]
 omega
theorem bB2 (b x y:List UInt8):(aCy b x y).1.length≤b.length+2*x.length+2*y.length+2:=by
 unfold aCy
 split
 ·simp only []; omega
 ·split
  ·simp only []; omega
  ·simp only [aK1]
   have h1:=aD9 (aAc y) (aAc x) ([],0) (List.pairwise_map.2 (aD6 x))
   have h2:=aIo (aAc b) (aAc x) (aAc y) ((aCk (aAc x) (aAc y)).map Un.nm)
   have h3:=(aI3 (aLj (aAc b) (aAc x) (aAc y) ((aCk (aAc x) (aAc y)).map Un.nm))).2
   have e:=h2.1
   rw [aOr (fun n=>lenO (txtU (aAc b) n)) (fun n=>lenO (txtU (aAc x) n)+lenO (txtU (aAc y) n)),aOr (fun n=>lenO (txtU (aAc x) n)) (fun n=>lenO (txtU (aAc y) n))] at e
   have s1:=aN5 h1.1 (aAc b)
   have s2:=aN5 h1.1 (aAc x)
   have s3:=aN5 h1.1 (aAc y)
   have t1:=aFv b
   have t2:=aFv x
   have t3:=aFv y
   have l1:=aCt x
   have l2:=aCt y
   have l3:=h1.2
   have l4:=h2.2
   rw [List.length_map] at l4
   unfold aCk at *
   omega
end Go.Ab
