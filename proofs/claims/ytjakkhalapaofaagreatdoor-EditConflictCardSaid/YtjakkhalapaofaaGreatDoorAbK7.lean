/- Several texts of one kind, merged. No condition. -/
import Derived.Test.YtjakkhalapaofaaGreatDoorAbM7
import Derived.Test.YtjakkhalapaofaaGreatDoorAbQ1
import Derived.Test.YtjakkhalapaofaaGreatDoorAbK5
set_option linter.unusedSimpArgs false
set_option linter.unusedVariables false
namespace Go.Ab
def lnB (l:List (List UInt8)):List UInt8:=l.flatMap fun x=>x++[10]
def ClL (l:List UInt8):Prop:=(∀ b,b∈l→b≠10)∧Lit l∧aQl l=none
def BdL (w:List UInt8):Prop:=∃ ls,w++[10]=lnB ls∧∀ l,l∈ls→ClL l
theorem aM6 (x:List UInt8) (r:List (List UInt8)):lnB (x::r)=x++[10]++lnB r:=rfl
theorem bI8 (l:List (List UInt8)):l.length≤(lnB l).length:=by
 induction l with
 | nil=>simp
 | cons x r ih=>rw [aM6,List.length_append,List.length_append,List.length_cons,List.length_cons,List.length_nil]; omega
theorem Lit.app {a b:List UInt8} (ha:Lit a) (hb:Lit b):Lit (a++b):=fun x hx=>(List.mem_append.1 hx).elim (ha x) (hb x)
theorem bNm {ls:List (List UInt8)} (h:∀ l,l∈ls→ClL l):Lit (lnB ls):=by
 intro b hb
 obtain ⟨x,hx,hb⟩:=List.mem_flatMap.1 hb
 rcases List.mem_append.1 hb with hb | hb
 ·exact (h x hx).2.1 b hb
 ·rw [List.mem_singleton.1 hb]; decide
structure TLk (t:List UInt8):Prop extends TOk t where
 lit:Lit (hlB t)
theorem aTj {s rest:List UInt8}:∀ (ls:List (List UInt8)) (pre:List UInt8) (n:Nat),s=pre++(lnB ls++rest)→(∀ l,l∈ls→ClL l) →
 rawF s (List.replicate s.length true) (n+ls.length) pre.length=rawF s (List.replicate s.length true) n (pre++lnB ls).length
 | [],pre,n,_,_=>by simp [lnB]
 | x::r,pre,n,hs,h=>by
   obtain ⟨h1,-,h2⟩:=h x (by simp)
   have hs1:s=pre++(x++10::(lnB r++rest)):=by rw [hs,aM6]; simp
   have hs2:s=(pre++x++[10])++(lnB r++rest):=by rw [hs1]; simp
   have ih:=aTj r (pre++x++[10]) n hs2 fun l hl=>h l (by simp [hl])
   rw [List.length_cons,← Nat.add_assoc,aT0 hs1 (fun b hb=>h1 b hb),h2,List.nil_append,ih]
   congr 1
   rw [aM6]
   simp only [List.length_append]
   omega
theorem aKq {s:List UInt8}:∀ (l:List (List UInt8×List UInt8)) (pre:List UInt8) (n:Nat),s=pre++catB l→(∀ x,x∈l→TLk x.1∧BdL x.2)→(catB l).length<n→rawF s (List.replicate s.length true) n pre.length=rawB s.length pre.length l
 | [],pre,n,hs,_,hn=>by
   obtain ⟨m,rfl⟩:∃ m,n=m+1:=⟨n-1,by omega⟩
   have:s=pre:=by rw [hs]; simp [catB]
   rw [rawF,if_neg (by rw [this]; omega)]
   rfl
 | x::r,pre,n,hs,h,hn=>by
   obtain ⟨hx1,ls,hls,hcl⟩:=h x (by simp)
   have hll:=bI8 ls
   have hwl:=congrArg List.length hls
   rw [List.length_append,List.length_cons,List.length_nil] at hwl
   have htl:(tbB x).length=(hlB x.1).length+1+(lnB ls).length:=by
    rw [tbB,hls]
    simp only [List.length_append,List.length_cons,List.length_nil]
   rw [aGd,List.length_append] at hn
   obtain ⟨m,rfl⟩:∃ m,n=m+ls.length+1:=⟨n-1-ls.length,by omega⟩
   rw [aGd] at hs
   have hs1:s=pre++(hlB x.1++10::(lnB ls++catB r)):=by rw [hs,tbB,hls]; simp
   have hs2:s=(pre++hlB x.1++[10])++(lnB ls++catB r):=by rw [hs1]; simp
   have hs3:s=(pre++hlB x.1++[10]++lnB ls)++catB r:=by rw [hs1]; simp
   have e3:(pre++hlB x.1++[10]++lnB ls).length=pre.length+(tbB x).length:=by simp only [htl,List.length_append,List.length_cons,List.length_nil]; omega
   have ih:=aKq r _ m hs3 (fun y hy=>h y (by simp [hy])) (by omega)
   rw [aT0 hs1 (fun b hb=>(hx1.no b hb).1),aTj ls _ m hs2 hcl,ih,hx1.hd,e3]
   simp [rawB]
theorem aJm (l:List (List UInt8×List UInt8)) (h:∀ x,x∈l→TLk x.1∧BdL x.2):aC9 (catB l)=secB 0 l:=by
 obtain ⟨s,hs⟩:∃ s,s=catB l:=⟨_,rfl⟩
 rw [← hs]
 have hno:Lit s:=by
  intro b hb
  rw [hs] at hb
  obtain ⟨x,hx,hb⟩:=List.mem_flatMap.1 hb
  obtain ⟨h1,ls,h2,h3⟩:=h x hx
  rw [tbB,h2] at hb
  rcases List.mem_append.1 hb with hb | hb
  ·rcases List.mem_append.1 hb with hb | hb
   ·exact h1.lit b hb
   ·rw [List.mem_singleton.1 hb]; decide
  ·exact bNm h3 b hb
 by_cases hne:s=[]
 ·cases l with
  | nil=>subst hne; rfl
  | cons x r=>exact absurd (hs ▸ hne) (by rw [aGd,tbB]; simp)
 have hp:aBo s=[tx s]:=by rw [aIr hno,ptx,if_neg hne]
 have hr:=aKq l [] (s.length+1) hs h (by rw [hs]; omega)
 rw [aC9,hp,bDl]
 have hr':rawF s (List.replicate s.length true) (s.length+1) 0=rawB s.length 0 l:=hr
 rw [hr',aT6 _ _ _ (by rw [hs]; omega)]
theorem aNy (l:List (List UInt8×List UInt8)) (h:∀ x,x∈l→TLk x.1∧BdL x.2) (hd:(l.map Prod.fst).Pairwise (·≠·)):aAc (catB l)=⟨[],0,[]⟩::l.map fun x=>⟨x.1,0,tbB x⟩:=by
 have hs:=aJm l h
 have hu:=aMd (s:=catB l) l [] [] rfl hd (fun y hy=>by cases hy)
 rw [List.length_nil] at hu
 rw [aAc,hs,hu]
 congr 2
 unfold aHz
 rw [hs]
 cases l with
 | nil=>rfl
 | cons x r=>rfl
theorem bLv:TLk [83]:=⟨⟨by decide,by decide⟩,by unfold Lit; decide⟩
end Go.Ab
namespace Go.Ab
variable {P:Program} {F T:Nat→Nat}
theorem bPf:∀ x,x∈aGb→∃ y,x=y++[10]∧ClL y:=by
 intro x hx
 simp only [aGb,List.mem_cons,List.not_mem_nil,or_false] at hx
 rcases hx with rfl | rfl | rfl | rfl | rfl
 ·exact ⟨[111,110,101],rfl,by decide,by unfold Lit; decide,by decide⟩
 ·exact ⟨[116,119,111,32,119,111,114,100,115],rfl,by decide,by unfold Lit; decide,by decide⟩
 ·exact ⟨[116,104,114,101,101],rfl,by decide,by unfold Lit; decide,by decide⟩
 ·exact ⟨[],rfl,by decide,by unfold Lit; decide,by decide⟩
 ·exact ⟨[102,111,117,114,32,52],rfl,by decide,by unfold Lit; decide,by decide⟩
theorem bNw (l:List Int) (a:Nat) (s:Int):aGb.getD (srV l a s 5).toNat []∈aGb:=by
 have h:=aL5 l a s (n:=5) (by decide)
 obtain ⟨i,hi⟩:∃ i,i=(srV l a s 5).toNat:=⟨_,rfl⟩
 rw [← hi]
 have h5:i<5:=by omega
 match i,h5 with
 | 0,_=>decide
 | 1,_=>decide
 | 2,_=>decide
 | 3,_=>decide
 | 4,_=>decide
theorem aXy (a b:List (List UInt8)):lnB (a++b)=lnB a++lnB b:=by simp [lnB]
theorem bGi (l:List Int):∀ (k a:Nat) (s:Int) (ls:List (List UInt8)),(∀ x,x∈ls→ClL x)→∃ ls2,bdG l k a s (lnB ls)=lnB ls2∧(∀ x,x∈ls2→ClL x)∧ls2.length=ls.length+k
 | 0,a,s,ls,h=>⟨ls,rfl,h,rfl⟩
 | k+1,a,s,ls,h=>by
   obtain ⟨y,hy,hc⟩:=bPf _ (bNw l a s)
   obtain ⟨ls2,h1,h2,h3⟩:=bGi l k (srA l a) (srS l a s) (ls++[y]) (fun x hx=>by
    rcases List.mem_append.1 hx with hx | hx
    ·exact h x hx
    ·rw [List.mem_singleton.1 hx]; exact hc)
   refine ⟨ls2,?_,h2,by rw [h3,List.length_append,List.length_cons,List.length_nil]; omega⟩
   rw [bdG,hy,← h1,aXy]
   simp [lnB]
theorem aMh (l:List Int):∃ z,bdyF l=z++[10]∧BdL z:=by
 obtain ⟨ls,h1,h2,h3⟩:=bGi l (1+(srV l 0 (sdL l) 3).toNat) (srA l 0) (srS l 0 (sdL l)) [] (fun x hx=>by cases hx)
 have hne:ls≠[]:=fun e=>by subst e; simp at h3; omega
 have he:=List.dropLast_concat_getLast hne
 have hz:lnB ls=(lnB ls.dropLast++ls.getLast hne)++[10]:=by
  conv=>lhs; rw [← he]
  rw [aXy]
  simp [lnB]
 have h1:bdyF l=lnB ls:=h1
 exact ⟨_,by rw [h1,hz],ls,hz.symm,h2⟩
def hSS2:List UInt8:=[61,61,32,83,32,61,61,10]
end Go.Ab
namespace Go.Ab
variable {P:Program} {F T:Nat→Nat}
theorem bM0:∀ x,x∈aGb→Lit x:=by
 intro x hx
 simp only [aGb,List.mem_cons,List.not_mem_nil,or_false] at hx
 unfold Lit
 rcases hx with rfl | rfl | rfl | rfl | rfl <;> decide
theorem aY3 (l:List Int):∀ (k a:Nat) (s:Int) (t:List UInt8),Lit t→Lit (bdG l k a s t)
 | 0,_,_,_,h=>h
 | k+1,a,s,t,h=>aY3 l k _ _ _ (h.app (bM0 _ (bNw l a s)))
theorem bHi (l:List Int):Lit (bdyF l):=aY3 l _ _ _ [] (fun b hb=>by cases hb)
end Go.Ab
namespace Go.Ab
variable {P:Program} {F T:Nat→Nat}
def bld1 (w:List UInt8):List UInt8:=catB [([83],w)]
theorem aDp {w:List UInt8} (h:BdL w):aAc (bld1 w)=[⟨[],0,[]⟩,⟨[83],0,tbB ([83],w)⟩]:=aNy [([83],w)] (by simp; exact ⟨bLv,h⟩) (by simp)
theorem bBa {w:List UInt8} (h:BdL w):aC9 (bld1 w)=[⟨2,[83],0,8,(bld1 w).length⟩]:=by
 have h1:=aJm [([83],w)] (by simp; exact ⟨bLv,h⟩)
 have h2:(bld1 w).length=(tbB ([83],w)).length:=by simp [bld1,catB]
 rw [h2]
 show aC9 (catB _)=_
 rw [h1]
 simp [secB,hlB]
theorem aOn {w v:List UInt8} (h:bld1 w=bld1 v):w=v:=by
 simp only [bld1,catB,List.flatMap_cons,List.flatMap_nil,List.append_nil] at h
 exact aMy h
theorem aWc {b x y:List UInt8} (hb:BdL b) (hx:BdL x) (hy:BdL y) (h1:x≠b) (h2:x≠y) (h3:y≠b):aCw (bld1 b) (bld1 x) (bld1 y)=(bld1 x,[[83]]):=by
 unfold aCw
 rw [if_neg fun h=>h.elim (fun h=>h1 (aOn h)) fun h=>h2 (aOn h),if_neg fun h=>h3 (aOn h)]
 have hord:aBm (aAc (bld1 x)) (aAc (bld1 y))=aAc (bld1 x):=aVq (by rw [aDp hx,aDp hy]; rfl)
 have hl:aBt (some []) (some []) (some [])=(some [],false):=by unfold aBt; rw [if_pos rfl]
 have hc1:aBt (some (tbB ([83],b))) (some (tbB ([83],x))) (some (tbB ([83],y)))=(some (tbB ([83],x)),true):=by
  unfold aBt
  rw [if_neg fun h=>h2 (aMy (Option.some.inj h)),if_neg fun h=>h1 (aMy (Option.some.inj h)),if_neg fun h=>h3 (aMy (Option.some.inj h))]
  rfl
 simp only [hord]
 have hjoin:=aMf (bld1 x)
 rw [aDp hx] at hjoin
 have g:∀ w:List UInt8,BdL w→(txtU (aAc (bld1 w)) ([],0)=some []∧txtU (aAc (bld1 w)) ([83],0)=some (tbB ([83],w))):=fun w hw=>by
  rw [aDp hw]
  refine ⟨?_,?_⟩ <;> simp [aF7,Un.nm]
 obtain ⟨b0,b1⟩:=g b hb
 obtain ⟨x0,x1⟩:=g x hx
 obtain ⟨y0,y1⟩:=g y hy
 have hn:(aAc (bld1 x)).map Un.nm=[([],0),([83],0)]:=by rw [aDp hx]; rfl
 have hr:aFb (aAc (bld1 b)) (aAc (bld1 x)) (aAc (bld1 y)) (aAc (bld1 x))=[⟨[],0,[]⟩,⟨[83],0,tbB ([83],x)⟩]:=by
  rw [aGs,hn]
  simp only [aNf,List.filterMap_cons,List.filterMap_nil,b0,b1,x0,x1,y0,y1,hl,hc1,Option.map_some]
 have hc:aCz (aAc (bld1 b)) (aAc (bld1 x)) (aAc (bld1 y)) (aAc (bld1 x))=[[83]]:=by
  rw [aX5,hn]
  simp [aYj,List.filter_cons,b0,b1,x0,x1,y0,y1,hl,hc1]
 rw [hr,hc,hjoin]
def tx1 (a:List UInt8):List UInt8:=hSS2++a
theorem aMu (a:List UInt8):tx1 (a++[10])=bld1 a:=by simp [tx1,bld1,catB,tbB,hlB,hSS2]
theorem aG9 (a:List Int):Lit (tx1 (bdyF a)):=by
 have h1:Lit hSS2:=by unfold Lit hSS2; decide
 exact h1.app (bHi a)
theorem aG7 (a:List Int):(tx1 (bdyF a)).length≤38:=by
 have:=aJu a
 simp only [tx1,hSS2,List.length_append,List.length_cons,List.length_nil]
 omega
theorem has1 {w v:List UInt8} (hw:BdL w) (hv:BdL v):∀ u,u∈aAc (bld1 w)→hasU (aAc (bld1 v)) u.nm=true:=by
 rw [aDp hw,aDp hv]
 intro u hu
 simp only [List.mem_cons,List.not_mem_nil,or_false] at hu
 rcases hu with rfl | rfl <;> simp [hasU,Un.nm]
theorem bR8 (a b:List Int):∀ u,u∈aAc (tx1 (bdyF a))→hasU (aAc (tx1 (bdyF b))) u.nm=true:=by
 obtain ⟨x,ex,hx⟩:=aMh a
 obtain ⟨y,ey,hy⟩:=aMh b
 rw [ex,ey,aMu,aMu]
 exact has1 hx hy
theorem aZm {a b c:List Int} (h1:bdyF b≠bdyF a) (h2:bdyF b≠bdyF c) (h3:bdyF c≠bdyF a):aCw (tx1 (bdyF a)) (tx1 (bdyF b)) (tx1 (bdyF c))=(tx1 (bdyF b),[[83]]):=by
 obtain ⟨x,ex,hx⟩:=aMh a
 obtain ⟨y,ey,hy⟩:=aMh b
 obtain ⟨z,ez,hz⟩:=aMh c
 rw [ex,ey] at h1
 rw [ey,ez] at h2
 rw [ex,ez] at h3
 rw [ex,ey,ez,aMu,aMu,aMu]
 exact aWc hx hy hz (fun e=>h1 (by rw [e])) (fun e=>h2 (by rw [e])) (fun e=>h3 (by rw [e]))
theorem aIn {a c:List Int} (b:List Int) (h:bdyF b=bdyF a∨bdyF b=bdyF c):aCw (tx1 (bdyF a)) (tx1 (bdyF b)) (tx1 (bdyF c))=(tx1 (bdyF c),[]):=by
 unfold aCw
 rw [if_pos (by rcases h with h | h <;> simp [h])]
theorem aV3 {a b:List Int} (c:List Int) (h1:bdyF b≠bdyF a) (h2:bdyF b≠bdyF c) (h3:bdyF c=bdyF a):aCw (tx1 (bdyF a)) (tx1 (bdyF b)) (tx1 (bdyF c))=(tx1 (bdyF b),[]):=by
 have e:∀ x y:List UInt8,tx1 x=tx1 y→x=y:=fun x y h=>List.append_cancel_left h
 unfold aCw
 rw [if_neg (fun h=>h.elim (fun h=>h1 (e _ _ h)) fun h=>h2 (e _ _ h)),if_pos (by rw [h3])]
theorem bM7 (K:MrgL P F T) (hS:∀ s:List UInt8,s.length≤8192→Lit s→aH6 P (F 124) s) (a b c:List Int):PTr P (F 257) [.str (tx1 (bdyF a)),.str (tx1 (bdyF b)),.str (tx1 (bdyF c))] (mrgV (aCw (tx1 (bdyF a)) (tx1 (bdyF b)) (tx1 (bdyF c)))):=by
 have l1:=aG7 a
 have l2:=aG7 b
 have l3:=aG7 c
 exact bRi K _ _ _ (by omega) (by omega) (by omega) (hS _ (by omega) (aG9 a)) (hS _ (by omega) (aG9 b)) (hS _ (by omega) (aG9 c)) (by omega) fun _=>.inr (bR8 c b)
theorem bJ2 (K:RMrgL P F T) (hS:∀ s:List UInt8,s.length≤8192→Lit s→aH6 P (F 159) s) (a b c:List Int):PTr P (F 278) [.str (tx1 (bdyF a)),.str (tx1 (bdyF b)),.str (tx1 (bdyF c))] (mrgV (aCw (tx1 (bdyF a)) (tx1 (bdyF b)) (tx1 (bdyF c)))):=by
 have l1:=aG7 a
 have l2:=aG7 b
 have l3:=aG7 c
 exact bOv K _ _ _ (by omega) (by omega) (by omega) (hS _ (by omega) (aG9 a)) (hS _ (by omega) (aG9 b)) (hS _ (by omega) (aG9 c)) (by omega)
theorem bI3 (hS:∀ s:List UInt8,s.length≤8192→Lit s→aH6 P (F 159) s) (a:List Int):PTr P (F 159) [.str (tx1 (bdyF a))] (.tup [.lst 5 [.agg [.int .i64 2,.str [83],.int .i64 0,.int .i64 8,.int .i64 ((tx1 (bdyF a)).length:Nat)]],.int .i64 0]):=by
 have l1:=aG7 a
 have h:PTr _ _ _ _:=hS _ (by omega) (aG9 a)
 obtain ⟨x,ex,hx⟩:=aMh a
 rw [ex,aMu] at h ⊢
 rw [bBa hx] at h
 exact h
end Go.Ab
