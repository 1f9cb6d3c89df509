/- Several texts of one kind, merged. No condition. -/
import Derived.Test.YtgdllpgidgiccaaGreatDoorAbZ1
import Derived.Test.YtgdllpgidgiccaaGreatDoorAbK1
set_option linter.unusedSimpArgs false
set_option linter.unusedVariables false
namespace Go.Ab
theorem aG0 (l:List (List UInt8)):V.imms (l.map V.str)=true:=aHg _ _ fun t=>rfl
theorem bEa {s:List UInt8} {k:Nat} {t:List UInt8} (h:aX9 s=some (k,t)):t≠[]:=by
 unfold aX9 at h
 split at h
 ·cases h
 ·split at h
  ·cases h
  ·rename_i h2
   simp only [Option.some.injEq,Prod.mk.injEq] at h
   obtain ⟨_,rfl⟩:=h
   exact h2
theorem bDf {s:List UInt8} {p:List Bool} {i:Nat} {x:Sec} (h:x∈aDo s p i):x.title≠[]:=by
 unfold aDo at h
 split at h
 ·split at h
  ·rename_i k t e
   rw [List.mem_singleton.1 h]
   exact bEa e
  ·cases h
 ·cases h
theorem aZs {s:List UInt8} {p:List Bool} {x:Sec}:∀ (n i:Nat),x∈rawF s p n i→x.title≠[]
 | 0,i,h=>by cases h
 | n+1,i,h=>by
   unfold rawF at h
   split at h
   ·rcases List.mem_append.1 h with h | h
    ·exact bDf h
    ·exact aZs n _ h
   ·cases h
theorem bFi {x:Sec}:∀ (l:List Sec),x∈toF l→∃ y,y∈l∧y.title=x.title
 | [],h=>by cases h
 | y::r,h=>by
   rcases List.mem_cons.1 h with rfl | h
   ·exact ⟨y,by simp,rfl⟩
   ·obtain ⟨z,h1,h2⟩:=bFi r h
    exact ⟨z,List.mem_cons_of_mem _ h1,h2⟩
theorem bGa {s:List UInt8} {x:Sec} (h:x∈aEh s):x.title≠[]:=by
 obtain ⟨y,h1,h2⟩:=bFi _ h
 rw [← h2]
 exact aZs _ _ h1
end Go.Ab
namespace Go.Ab
structure Un where
 title:List UInt8
 nth:Nat
 text:List UInt8
def Un.v (u:Un):V:=.agg [.str u.title,.int .i64 u.nth,.str u.text]
def cntT (l:List Sec) (t:List UInt8):Nat:=(l.filter fun y=>decide (y.title=t)).length
def nxF (s:List UInt8):List Sec→Nat
 | []=>s.length
 | y::_=>y.fr
def uGo (s:List UInt8) (p:List Sec):List Sec→List Un
 | []=>[]
 | x::r=>⟨x.title,cntT p x.title,(s.take (nxF s r)).drop x.fr⟩::uGo s (p++[x]) r
def aAf (s:List UInt8):List Un:=⟨[],0,aHz s⟩::uGo s [] (aEh s)
def anyT (l:List Un):Bool:=l.any fun u=>!decide (u.text=[])
def aEs:List Un→List UInt8
 | []=>[]
 | u::r=>u.text++((if anyT r=true∧u.text≠[]∧u.text.getLast?≠some 10 then [10] else [])++aEs r)
def aPs (a:List UInt8):List Un→List UInt8
 | []=>a
 | u::r=>if u.text=[] then aPs a r else aPs ((if a≠[]∧a.getLast?≠some 10 then a++[10] else a)++u.text) r
theorem bBh (u:Un) (r:List Un):anyT (u::r)=(!decide (u.text=[])||anyT r):=rfl
theorem aOd:∀ (l:List Un) (a:List UInt8),aPs a l=a++((if anyT l=true∧a≠[]∧a.getLast?≠some 10 then [10] else [])++aEs l)
 | [],a=>by simp [aPs,aEs,anyT]
 | u::r,a=>by
   rw [aPs,aEs,bBh]
   by_cases hu:u.text=[]
   ·rw [if_pos hu,aOd r a]
    simp [hu]
   ·rw [if_neg hu,aOd r]
    have h1:∀ x:List UInt8,(x++u.text).getLast?=u.text.getLast?:=by
     intro x
     rw [List.getLast?_append]
     cases h:u.text.getLast? with
     | none=>exact absurd (List.getLast?_eq_none_iff.1 h) hu
     | some b=>rfl
    have h2:∀ x:List UInt8,x++u.text≠[]:=by intro x; simp [hu]
    simp only [h1,hu,decide_false,Bool.not_false,Bool.true_or,true_and,ne_eq,not_false_eq_true,h2]
    by_cases ha:¬ a=[]∧¬ a.getLast?=some 10
    ·rw [if_pos ha,if_pos ha]; simp only [List.append_assoc]
    ·rw [if_neg ha,if_neg ha]; simp only [List.append_assoc,List.nil_append]
theorem aZq (l:List Un):aPs [] l=aEs l:=by rw [aOd]; simp
theorem aTx:∀ {l:List Sec},l.Pairwise (fun x y=>x.bd≤y.fr)→(toF l).Pairwise (fun x y=>x.bd≤y.fr)
 | [],_=>by simp [toF]
 | x::l,h=>by
   rw [List.pairwise_cons] at h
   simp only [toF]
   rw [List.pairwise_cons]
   refine ⟨fun y hy=>?_,aTx h.2⟩
   obtain ⟨a,y0,r,rfl,rfl⟩:=aRy hy
   exact h.1 y0 (by simp)
theorem aLw (s:List UInt8):(aEh s).Pairwise (fun x y=>x.bd≤y.fr):=aTx (aOz s).2
theorem aQ1 {s:List UInt8} {n:Nat} (h:LSt s n) (h0:0<n) (hn:n≤s.length):(s.take n).getLast?=some 10:=by
 rcases h with h | ⟨_,h⟩
 ·omega
 ·rw [List.getLast?_eq_getElem?,List.length_take,show min n s.length=n by omega,List.getElem?_take,if_pos (by omega),h]
theorem bFy {s:List UInt8}:∀ {l:List Sec},(∀ x,x∈l→SecOk s x)→nxF s l≤s.length
 | [],_=>Nat.le_refl _
 | y::_,h=>by have h1:=h y (by simp); have:=h1.bd; have:=h1.le; have:=h1.to; simp only [nxF]; omega
theorem aQl (s:List UInt8):∀ (l p:List Sec),(∀ x,x∈l→SecOk s x)→l.Pairwise (fun x y=>x.bd≤y.fr)→aEs (uGo s p l)=s.drop (nxF s l)
 | [],p,_,_=>by simp [uGo,aEs,nxF]
 | x::r,p,h,hp=>by
   rw [List.pairwise_cons] at hp
   have h1:=h x (by simp)
   have hn:=bFy (s:=s) (l:=r) (fun y hy=>h y (by simp [hy]))
   have hlt:x.fr<nxF s r:=by
    have:=h1.bd; have:=h1.le; have:=h1.to
    cases r with
    | nil=>simp only [nxF]; omega
    | cons y r=>have:=hp.1 y (by simp); simp only [nxF]; omega
   rw [uGo,aEs,aQl s r _ (fun y hy=>h y (by simp [hy])) hp.2]
   have hsep:¬ (anyT (uGo s (p++[x]) r)=true∧(s.take (nxF s r)).drop x.fr≠[]∧((s.take (nxF s r)).drop x.fr).getLast?≠some 10):=by
    intro ⟨ha,hb,hc⟩
    cases r with
    | nil=>simp [uGo,anyT] at ha
    | cons y r =>
      apply hc
      have hl:=aQ1 (h y (by simp)).ls (by simp only [nxF] at hlt; omega) (by simpa only [nxF] using hn)
      simp only [nxF] at hlt hn hl ⊢
      rw [List.getLast?_drop,if_neg (by rw [List.length_take]; omega),hl]
   rw [if_neg hsep]
   simp only [List.nil_append]
   show (s.take (nxF s r)).drop x.fr++s.drop (nxF s r)=s.drop x.fr
   rw [List.drop_take]
   have:s.drop (nxF s r)=(s.drop x.fr).drop (nxF s r-x.fr):=by rw [List.drop_drop]; congr 1; omega
   rw [this,List.take_append_drop]
theorem aXc (s:List UInt8):aEs (aAf s)=s:=by
 have hg:=aQl s (aEh s) [] (aJ4 s) (aLw s)
 rw [aAf,aEs,hg]
 cases hl:aEh s with
 | nil=>simp [aHz,hl,nxF,uGo,anyT]
 | cons x r =>
   have h1:=aJ4 s x (by rw [hl]; simp)
   have:=h1.bd; have:=h1.le; have:=h1.to
   have hlead:aHz s=s.take x.fr:=by simp [aHz,hl]
   simp only [hlead,nxF]
   have hsep:¬ (anyT (uGo s [] (x::r))=true∧s.take x.fr≠[]∧(s.take x.fr).getLast?≠some 10):=by
    intro ⟨_,hb,hc⟩
    have h0:0<x.fr:=by
     rcases Nat.eq_zero_or_pos x.fr with h | h
     ·rw [h] at hb; simp at hb
     ·exact h
    exact hc (aQ1 h1.ls h0 (by omega))
   rw [if_neg hsep,List.nil_append,List.take_append_drop]
end Go.Ab
namespace Go.Ab
abbrev Un.nm (u:Un):List UInt8×Nat:=(u.title,u.nth)
theorem aI5 (p:List Sec) (x:Sec) (t:List UInt8):cntT (p++[x]) t=cntT p t+if x.title=t then 1 else 0:=by
 unfold cntT
 rw [List.filter_append,List.length_append]
 by_cases h:x.title=t <;> simp [h]
theorem bA3 (s:List UInt8):∀ (l p:List Sec) (u:Un),u∈uGo s p l→cntT p u.title≤u.nth∧∃ x,x∈l∧x.title=u.title
 | [],_,_,h=>by simp [uGo] at h
 | x::r,p,u,h=>by
   simp only [uGo,List.mem_cons] at h
   rcases h with rfl | h
   ·exact ⟨Nat.le_refl _,x,by simp,rfl⟩
   ·obtain ⟨h1,y,h2,h3⟩:=bA3 s r _ u h
    rw [aI5] at h1
    exact ⟨by omega,y,by simp [h2],h3⟩
theorem aRm (s:List UInt8):∀ (l p:List Sec),(uGo s p l).Pairwise (fun u v=>u.nm≠v.nm)
 | [],_=>by simp [uGo]
 | x::r,p=>by
   rw [uGo,List.pairwise_cons]
   refine ⟨fun v hv h=>?_,aRm s r _⟩
   obtain ⟨h1,-⟩:=bA3 s r _ v hv
   simp only [Un.nm,Prod.mk.injEq] at h
   obtain ⟨h2,h3⟩:=h
   rw [aI5,if_pos h2,← h2] at h1
   omega
def atU (l:List Un) (n:List UInt8×Nat):Nat:=l.findIdx fun u=>decide (u.nm=n)
def hasU (l:List Un) (n:List UInt8×Nat):Bool:=l.any fun u=>decide (u.nm=n)
def ordG (out:List Un) (prev:List UInt8×Nat):List Un→List Un
 | []=>out
 | u::r=>ordG (if hasU out u.nm=true then out else out.take (atU out prev+1)++u::out.drop (atU out prev+1)) u.nm r
def aCf (o t:List Un):List Un:=ordG o ([],0) t
def txtU (l:List Un) (n:List UInt8×Nat):Option (List UInt8):=(l.find? fun u=>decide (u.nm=n)).map Un.text
def aDg (b o t:Option (List UInt8)):Option (List UInt8)×Bool :=
 if o=t then (o,false) else if o=b then (t,false) else if t=b then (o,false) else if o.isSome then (o,true) else (t,true)
def aR5 (b o t:Option (List UInt8)):Option (List UInt8)×Bool :=
 if o=t∨t=b then (o,false) else if o=b then (t,false) else if o.isSome then (o,true) else (t,true)
theorem aO8 (b o t:Option (List UInt8)):aDg b o t=aR5 b o t:=by
 unfold aDg aR5
 by_cases h1:o=t
 ·simp [h1]
 ·by_cases h2:o=b
  ·by_cases h3:t=b
   ·exact absurd (h2.trans h3.symm) h1
   ·subst h2; simp [h1,h3]
  ·by_cases h3:t=b
   ·simp [h1,h2,h3]
   ·simp [h1,h2,h3]
def aGj (b o t:List Un) (l:List Un):List Un:=l.filterMap fun u=>((aDg (txtU b u.nm) (txtU o u.nm) (txtU t u.nm)).1).map fun x=>⟨u.title,u.nth,x⟩
def aDy (b o t:List Un) (l:List Un):List (List UInt8):=(l.filter fun u=>(aDg (txtU b u.nm) (txtU o u.nm) (txtU t u.nm)).2).map Un.title
def aEw (b o t:List UInt8):List UInt8×List (List UInt8) :=
 if o=b∨o=t then (t,[]) else if t=b then (o,[]) else
  let l:=aCf (aAf o) (aAf t)
  (aEs (aGj (aAf b) (aAf o) (aAf t) l),aDy (aAf b) (aAf o) (aAf t) l)
end Go.Ab
namespace Go.Ab
theorem aDe (s:List UInt8):(aAf s).Pairwise (fun u v=>u.nm≠v.nm):=by
 rw [aAf,List.pairwise_cons]
 refine ⟨fun v hv h=>?_,aRm s _ _⟩
 obtain ⟨-,x,hx,ht⟩:=bA3 s _ _ v hv
 simp only [Un.nm,Prod.mk.injEq] at h
 exact bGa hx (ht.trans h.1.symm)
def insU (l:List Un) (i:Nat) (u:Un):List Un:=l.take i++u::l.drop i
theorem aIw (l:List Un) (i:Nat) (u:Un) (n:List UInt8×Nat):hasU (insU l i u) n=(decide (u.nm=n)||hasU l n):=by
 unfold hasU insU
 rw [List.any_append,List.any_cons]
 have h:(l.any fun u=>decide (u.nm=n))=(((l.take i).any fun u=>decide (u.nm=n))||((l.drop i).any fun u=>decide (u.nm=n))):=by
  rw [← List.any_append,List.take_append_drop]
 rw [h]
 cases (l.take i).any fun u=>decide (u.nm=n) <;> simp
def ordR (o out:List Un) (prev:List UInt8×Nat):List Un→List Un
 | []=>out
 | u::r=>ordR o (if hasU o u.nm=true then out else insU out (atU out prev+1) u) u.nm r
theorem aLu (o:List Un):∀ (r out:List Un) (prev:List UInt8×Nat),(∀ u,u∈r→hasU out u.nm=hasU o u.nm)→r.Pairwise (fun u v=>u.nm≠v.nm)→ordG out prev r=ordR o out prev r
 | [],_,_,_,_=>rfl
 | u::r,out,prev,h,hp=>by
   rw [List.pairwise_cons] at hp
   have h1:=h u (by simp)
   rw [ordG,ordR,h1]
   by_cases hh:hasU o u.nm=true
   ·rw [if_pos hh,if_pos hh]
    exact aLu o r out _ (fun v hv=>h v (by simp [hv])) hp.2
   ·rw [if_neg hh,if_neg hh]
    refine aLu o r _ _ (fun v hv=>?_) hp.2
    show hasU (insU out (atU out prev+1) u) v.nm=_
    rw [aIw,h v (by simp [hv])]
    have:u.nm≠v.nm:=hp.1 v hv
    simp [this]
theorem aLo (s:List UInt8):hasU (aAf s) ([],0)=true:=by simp [aAf,hasU,Un.nm]
theorem bBe (o t:List UInt8):aCf (aAf o) (aAf t)=ordR (aAf o) (aAf o) ([],0) (uGo t [] (aEh t)):=by
 have hp:=aDe t
 rw [aAf,List.pairwise_cons] at hp
 rw [aCf,aAf.eq_1 t,ordG,if_pos (aLo o)]
 exact aLu _ _ _ _ (fun _ _=>rfl) hp.2
end Go.Ab
namespace Go.Ab
def aPr (b o t:List Un) (l:List (List UInt8×Nat)):List Un:=l.filterMap fun n=>((aDg (txtU b n) (txtU o n) (txtU t n)).1).map fun x=>⟨n.1,n.2,x⟩
theorem aI8 (b o t l:List Un):aGj b o t l=aPr b o t (l.map Un.nm):=by
 unfold aGj aPr
 rw [List.filterMap_map]
 rfl
theorem bEi {l:List Un} {n:List UInt8×Nat}:hasU l n=true↔n∈l.map Un.nm:=by
 unfold hasU
 rw [List.any_eq_true,List.mem_map]
 constructor
 ·rintro ⟨u,hu,h⟩; exact ⟨u,hu,by simpa using h⟩
 ·rintro ⟨u,hu,h⟩; exact ⟨u,hu,by simpa using h⟩
end Go.Ab
namespace Go.Ab
def knM0:List UInt8:=[61,61,32,65,32,61,61,10,97,10,61,61,32,66,32,61,61,10,98,10]
def knM1:List UInt8:=[61,61,32,65,32,61,61,10,120,10,61,61,32,66,32,61,61,10,98,10]
def knM2:List UInt8:=[61,61,32,65,32,61,61,10,97,10,61,61,32,66,32,61,61,10,121,10]
def knM3:List UInt8:=[61,61,32,65,32,61,61,10,120,10,61,61,32,66,32,61,61,10,121,10]
theorem knM:aEw knM0 knM1 knM2=(knM3,[]):=by kernel_rfl
end Go.Ab
namespace Go.Ab
def sumT (l:List Un):Nat:=(l.map fun u=>u.text.length).sum
theorem aG8:∀ l:List Un,sumT l≤(aEs l).length∧(aEs l).length≤sumT l+l.length
 | []=>by simp [aEs,sumT]
 | u::r=>by
   obtain ⟨h1,h2⟩:=aG8 r
   unfold sumT at h1 h2 ⊢
   rw [aEs]
   simp only [List.length_append,List.map_cons,List.sum_cons,List.length_cons]
   split <;> simp only [List.length_cons,List.length_nil] <;> omega
theorem aL7 (s:List UInt8):sumT (aAf s)≤s.length:=by
 have h:=(aG8 (aAf s)).1
 rwa [aXc] at h
def lenO (x:Option (List UInt8)):Nat:=(x.getD []).length
theorem aId (u:Un) (l:List Un) (n:List UInt8×Nat):txtU (u::l) n=if u.nm=n then some u.text else txtU l n:=by
 unfold txtU
 rw [List.find?_cons]
 by_cases h:u.nm=n
 ·simp [h]
 ·simp [h]
theorem aN9 (f g:List UInt8×Nat→Nat):∀ N:List (List UInt8×Nat),(N.map fun n=>f n+g n).sum=(N.map f).sum+(N.map g).sum
 | []=>rfl
 | n::N=>by simp only [List.map_cons,List.sum_cons,aN9 f g N]; omega
theorem bF7 (f g:List UInt8×Nat→Nat) (h:∀ n,f n≤g n):∀ N:List (List UInt8×Nat),(N.map f).sum≤(N.map g).sum
 | []=>Nat.le_refl _
 | n::N=>by have:=bF7 f g h N; have:=h n; simp only [List.map_cons,List.sum_cons]; omega
theorem bA2 (m:List UInt8×Nat) (k:Nat):∀ {N:List (List UInt8×Nat)},N.Pairwise (·≠·)→(N.map fun n=>if m=n then k else 0).sum≤k∧(m∉N→(N.map fun n=>if m=n then k else 0).sum=0)
 | [],_=>by simp
 | n::N,h=>by
   rw [List.pairwise_cons] at h
   obtain ⟨h1,h2⟩:=bA2 m k h.2
   simp only [List.map_cons,List.sum_cons,List.mem_cons,not_or]
   by_cases e:m=n
   ·subst e
    have h3:=h2 (fun hm=>h.1 m hm rfl)
    simp only [if_true]
    refine ⟨by omega,fun hh=>absurd trivial hh.1⟩
   ·simp only [e,if_false]
    exact ⟨by omega,fun hh=>by have:=h2 hh.2; omega⟩
theorem aOw {N:List (List UInt8×Nat)} (h:N.Pairwise (·≠·)):∀ l:List Un,(N.map fun n=>lenO (txtU l n)).sum≤sumT l
 | []=>by
   have h0:∀ N:List (List UInt8×Nat),(N.map fun n=>lenO (txtU [] n)).sum=0:=by
    intro N
    induction N with
    | nil=>rfl
    | cons n N ih=>simp only [List.map_cons,List.sum_cons,ih]; rfl
   rw [h0]; exact Nat.zero_le _
 | u::l=>by
   have ih:=aOw h l
   have h1:=(bA2 u.nm u.text.length h).1
   have h2:(N.map fun n=>lenO (txtU (u::l) n)).sum≤(N.map fun n=>(if u.nm=n then u.text.length else 0)+lenO (txtU l n)).sum:=by
    apply bF7 (fun n=>lenO (txtU (u::l) n)) (fun n=>(if u.nm=n then u.text.length else 0)+lenO (txtU l n))
    intro n
    simp only [aId]
    by_cases e:u.nm=n
    ·simp only [e,if_true,lenO,Option.getD_some]; omega
    ·simp only [e,if_false]; omega
   rw [aN9 (fun n=>if u.nm=n then u.text.length else 0) (fun n=>lenO (txtU l n))] at h2
   unfold sumT at ih ⊢
   simp only [List.map_cons,List.sum_cons]
   omega
theorem aV9 (b o t:Option (List UInt8)):lenO (aDg b o t).1≤lenO b+(lenO o+lenO t):=by
 unfold aDg
 split
 ·simp only []; omega
 ·split
  ·simp only []; omega
  ·split
   ·simp only []; omega
   ·split <;> simp only [] <;> omega
theorem aFw (b o t:List Un):∀ N:List (List UInt8×Nat),sumT (aPr b o t N)≤(N.map fun n=>lenO (txtU b n)+(lenO (txtU o n)+lenO (txtU t n))).sum∧(aPr b o t N).length≤N.length
 | []=>by simp [aPr,sumT]
 | n::N=>by
   obtain ⟨h1,h2⟩:=aFw b o t N
   have h3:=aV9 (txtU b n) (txtU o n) (txtU t n)
   unfold sumT aPr at h1 ⊢
   unfold aPr at h2
   rw [List.filterMap_cons]
   cases hc:(aDg (txtU b n) (txtU o n) (txtU t n)).1 with
   | none=>simp only [Option.map_none,List.map_cons,List.sum_cons,List.length_cons]; exact ⟨by omega,by omega⟩
   | some x =>
     rw [hc] at h3
     simp only [lenO,Option.getD_some] at h3
     simp only [Option.map_some,List.map_cons,List.sum_cons,List.length_cons]
     unfold lenO at h1 ⊢
     exact ⟨by omega,by omega⟩
end Go.Ab
namespace Go.Ab
theorem bBs {l:List Un} {i:Nat} {u:Un} (h:(l.map Un.nm).Pairwise (·≠·)) (hu:hasU l u.nm≠true):((insU l i u).map Un.nm).Pairwise (·≠·)∧(insU l i u).length=l.length+1:=by
 have hn:u.nm∉l.map Un.nm:=fun hm=>hu (bEi.2 hm)
 constructor
 ·have hp:(insU l i u).Perm (u::l):=by
   unfold insU
   exact List.perm_middle.trans (List.Perm.cons _ (by rw [List.take_append_drop]))
  have h2:((u::l).map Un.nm).Nodup:=by
   rw [List.map_cons,List.nodup_cons]
   exact ⟨hn,h⟩
  exact (hp.map Un.nm).nodup_iff.2 h2
 ·unfold insU
  rw [List.length_append,List.length_cons,List.length_take,List.length_drop]
  omega
theorem aEa:∀ (r out:List Un) (prev:List UInt8×Nat),(out.map Un.nm).Pairwise (·≠·)→((ordG out prev r).map Un.nm).Pairwise (·≠·)∧(ordG out prev r).length≤out.length+r.length
 | [],out,_,h=>⟨h,Nat.le_refl _⟩
 | u::r,out,prev,h=>by
   rw [ordG]
   by_cases hh:hasU out u.nm=true
   ·rw [if_pos hh]
    have:=aEa r out u.nm h
    exact ⟨this.1,by have:=this.2; simp only [List.length_cons]; omega⟩
   ·rw [if_neg hh]
    have h1:=bBs (i:=atU out prev+1) h hh
    have h2:=aEa r (insU out (atU out prev+1) u) u.nm h1.1
    exact ⟨h2.1,by have:=h2.2; rw [h1.2] at this; simp only [List.length_cons]; unfold insU at this; omega⟩
theorem bB8 (s:List UInt8):∀ (l p:List Sec),(uGo s p l).length=l.length
 | [],_=>rfl
 | x::r,p=>by rw [uGo,List.length_cons,List.length_cons,bB8 s r]
theorem aBr (s:List UInt8):(aAf s).length≤s.length+1:=by
 have:=aO5 s
 rw [aAf,List.length_cons,bB8]
 omega
theorem aPt (b x y:List UInt8):(aEw b x y).1.length≤b.length+2*x.length+2*y.length+2:=by
 unfold aEw
 split
 ·simp only []; omega
 ·split
  ·simp only []; omega
  ·simp only [aI8]
   have h1:=aEa (aAf y) (aAf x) ([],0) (List.pairwise_map.2 (aDe x))
   have h2:=aFw (aAf b) (aAf x) (aAf y) ((aCf (aAf x) (aAf y)).map Un.nm)
   have h3:=(aG8 (aPr (aAf b) (aAf x) (aAf y) ((aCf (aAf x) (aAf y)).map Un.nm))).2
   have e:=h2.1
   rw [aN9 (fun n=>lenO (txtU (aAf b) n)) (fun n=>lenO (txtU (aAf x) n)+lenO (txtU (aAf y) n)),aN9 (fun n=>lenO (txtU (aAf x) n)) (fun n=>lenO (txtU (aAf y) n))] at e
   have s1:=aOw h1.1 (aAf b)
   have s2:=aOw h1.1 (aAf x)
   have s3:=aOw h1.1 (aAf y)
   have t1:=aL7 b
   have t2:=aL7 x
   have t3:=aL7 y
   have l1:=aBr x
   have l2:=aBr y
   have l3:=h1.2
   have l4:=h2.2
   rw [List.length_map] at l4
   unfold aCf at *
   omega
end Go.Ab
