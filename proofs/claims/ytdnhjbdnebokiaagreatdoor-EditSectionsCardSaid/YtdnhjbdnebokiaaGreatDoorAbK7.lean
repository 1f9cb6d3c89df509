/- Several texts of one kind, merged. No condition. -/
import Derived.Test.YtdnhjbdnebokiaaGreatDoorAbM7
import Derived.Test.YtdnhjbdnebokiaaGreatDoorAbQ1
import Derived.Test.YtdnhjbdnebokiaaGreatDoorAbK5
set_option linter.unusedSimpArgs false
set_option linter.unusedVariables false
namespace Go.Ab
def lnB (l:List (List UInt8)):List UInt8:=l.flatMap fun x=>x++[10]
def ClL (l:List UInt8):Prop:=(∀ b,b∈l→b≠10)∧Lit l∧aQk l=none
def BdL (w:List UInt8):Prop:=∃ ls,w++[10]=lnB ls∧∀ l,l∈ls→ClL l
theorem aNd (x:List UInt8) (r:List (List UInt8)):lnB (x::r)=x++[10]++lnB r:=rfl
theorem bIa (l:List (List UInt8)):l.length≤(lnB l).length:=by
 induction l with
 | nil=>simp
 | cons x r ih=>rw [aNd,List.length_append,List.length_append,List.length_cons,List.length_cons,List.length_nil]; omega
theorem Lit.app {a b:List UInt8} (ha:Lit a) (hb:Lit b):Lit (a++b):=fun x hx=>(List.mem_append.1 hx).elim (ha x) (hb x)
theorem bKu {ls:List (List UInt8)} (h:∀ l,l∈ls→ClL l):Lit (lnB ls):=by
 intro b hb
 obtain ⟨x,hx,hb⟩:=List.mem_flatMap.1 hb
 rcases List.mem_append.1 hb with hb | hb
 ·exact (h x hx).2.1 b hb
 ·rw [List.mem_singleton.1 hb]; decide
structure TLk (t:List UInt8):Prop extends TOk t where
 lit:Lit (hlB t)
theorem aTd {s rest:List UInt8}:∀ (ls:List (List UInt8)) (pre:List UInt8) (n:Nat),s=pre++(lnB ls++rest)→(∀ l,l∈ls→ClL l) →
 rawF s (List.replicate s.length true) (n+ls.length) pre.length=rawF s (List.replicate s.length true) n (pre++lnB ls).length
 | [],pre,n,_,_=>by simp [lnB]
 | x::r,pre,n,hs,h=>by
   obtain ⟨h1,-,h2⟩:=h x (by simp)
   have hs1:s=pre++(x++10::(lnB r++rest)):=by rw [hs,aNd]; simp
   have hs2:s=(pre++x++[10])++(lnB r++rest):=by rw [hs1]; simp
   have ih:=aTd r (pre++x++[10]) n hs2 fun l hl=>h l (by simp [hl])
   rw [List.length_cons,← Nat.add_assoc,aSb hs1 (fun b hb=>h1 b hb),h2,List.nil_append,ih]
   congr 1
   rw [aNd]
   simp only [List.length_append]
   omega
theorem aJ8 {s:List UInt8}:∀ (l:List (List UInt8×List UInt8)) (pre:List UInt8) (n:Nat),s=pre++catB l→(∀ x,x∈l→TLk x.1∧BdL x.2)→(catB l).length<n→rawF s (List.replicate s.length true) n pre.length=rawB s.length pre.length l
 | [],pre,n,hs,_,hn=>by
   obtain ⟨m,rfl⟩:∃ m,n=m+1:=⟨n-1,by omega⟩
   have:s=pre:=by rw [hs]; simp [catB]
   rw [rawF,if_neg (by rw [this]; omega)]
   rfl
 | x::r,pre,n,hs,h,hn=>by
   obtain ⟨hx1,ls,hls,hcl⟩:=h x (by simp)
   have hll:=bIa ls
   have hwl:=congrArg List.length hls
   rw [List.length_append,List.length_cons,List.length_nil] at hwl
   have htl:(tbB x).length=(hlB x.1).length+1+(lnB ls).length:=by
    rw [tbB,hls]
    simp only [List.length_append,List.length_cons,List.length_nil]
   rw [aFm,List.length_append] at hn
   obtain ⟨m,rfl⟩:∃ m,n=m+ls.length+1:=⟨n-1-ls.length,by omega⟩
   rw [aFm] at hs
   have hs1:s=pre++(hlB x.1++10::(lnB ls++catB r)):=by rw [hs,tbB,hls]; simp
   have hs2:s=(pre++hlB x.1++[10])++(lnB ls++catB r):=by rw [hs1]; simp
   have hs3:s=(pre++hlB x.1++[10]++lnB ls)++catB r:=by rw [hs1]; simp
   have e3:(pre++hlB x.1++[10]++lnB ls).length=pre.length+(tbB x).length:=by simp only [htl,List.length_append,List.length_cons,List.length_nil]; omega
   have ih:=aJ8 r _ m hs3 (fun y hy=>h y (by simp [hy])) (by omega)
   rw [aSb hs1 (fun b hb=>(hx1.no b hb).1),aTd ls _ m hs2 hcl,ih,hx1.hd,e3]
   simp [rawB]
theorem aN2 (l:List (List UInt8×List UInt8)) (h:∀ x,x∈l→TLk x.1∧BdL x.2):aE9 (catB l)=secB 0 l:=by
 obtain ⟨s,hs⟩:∃ s,s=catB l:=⟨_,rfl⟩
 rw [← hs]
 have hno:Lit s:=by
  intro b hb
  rw [hs] at hb
  obtain ⟨x,hx,hb⟩:=List.mem_flatMap.1 hb
  obtain ⟨h1,ls,h2,h3⟩:=h x hx
  rw [tbB,h2] at hb
  rcases List.mem_append.1 hb with hb | hb
  ·rcases List.mem_append.1 hb with hb | hb
   ·exact h1.lit b hb
   ·rw [List.mem_singleton.1 hb]; decide
  ·exact bKu h3 b hb
 by_cases hne:s=[]
 ·cases l with
  | nil=>subst hne; rfl
  | cons x r=>exact absurd (hs ▸ hne) (by rw [aFm,tbB]; simp)
 have hp:aCn s=[tx s]:=by rw [aHr hno,ptx,if_neg hne]
 have hr:=aJ8 l [] (s.length+1) hs h (by rw [hs]; omega)
 rw [aE9,hp,bBe]
 have hr':rawF s (List.replicate s.length true) (s.length+1) 0=rawB s.length 0 l:=hr
 rw [hr',aS3 _ _ _ (by rw [hs]; omega)]
theorem aMc (l:List (List UInt8×List UInt8)) (h:∀ x,x∈l→TLk x.1∧BdL x.2) (hd:(l.map Prod.fst).Pairwise (·≠·)):aAb (catB l)=⟨[],0,[]⟩::l.map fun x=>⟨x.1,0,tbB x⟩:=by
 have hs:=aN2 l h
 have hu:=aK1 (s:=catB l) l [] [] rfl hd (fun y hy=>by cases hy)
 rw [List.length_nil] at hu
 rw [aAb,hs,hu]
 congr 2
 unfold aM7
 rw [hs]
 cases l with
 | nil=>rfl
 | cons x r=>rfl
def bls2 (w:Nat→List UInt8):List (List UInt8×List UInt8):=[([83],w 0),([82],w 1)]
def bld2 (w:Nat→List UInt8):List UInt8:=catB (bls2 w)
theorem bMh:TLk [83]:=⟨⟨by decide,by decide⟩,by unfold Lit; decide⟩
theorem bM2:TLk [82]:=⟨⟨by decide,by decide⟩,by unfold Lit; decide⟩
theorem bGw {w:Nat→List UInt8} (h:∀ k,BdL (w k)):∀ x,x∈bls2 w→TLk x.1∧BdL x.2:=by
 intro x hx
 simp only [bls2,List.mem_cons,List.not_mem_nil,or_false] at hx
 rcases hx with rfl | rfl
 ·exact ⟨bMh,h 0⟩
 ·exact ⟨bM2,h 1⟩
theorem aBu {w:Nat→List UInt8} (h:∀ k,BdL (w k)):aAb (bld2 w)=[⟨[],0,[]⟩,⟨[83],0,tbB ([83],w 0)⟩,⟨[82],0,tbB ([82],w 1)⟩]:=aMc (bls2 w) (bGw h) (by simp [bls2])
theorem aLy {w v:Nat→List UInt8} (hw:∀ k,BdL (w k)) (hv:∀ k,BdL (v k)) (h:bld2 w=bld2 v):w 0=v 0∧w 1=v 1:=by
 have h1:=congrArg aAb h
 rw [aBu hw,aBu hv] at h1
 simp only [List.cons.injEq,Un.mk.injEq,true_and,and_true] at h1
 exact ⟨aQz h1.1,aQz h1.2⟩
theorem aJa {w v:Nat→List UInt8} (h0:w 0=v 0) (h1:w 1=v 1):bld2 w=bld2 v:=by
 unfold bld2 bls2
 rw [h0,h1]
theorem aLj {wb wx wy:Nat→List UInt8} (hb:∀ k,BdL (wb k)) (hx:∀ k,BdL (wx k)) (hy:∀ k,BdL (wy k)) (h:∀ k,wx k=wb k∨wy k=wb k) :
 aGe (bld2 wb) (bld2 wx) (bld2 wy)=(bld2 fun k=>newB (wb k) (wx k) (wy k),[]):=by
 have hn:∀ k,BdL (newB (wb k) (wx k) (wy k)):=fun k=>by unfold newB; split; exact hy k; exact hx k
 unfold aGe
 by_cases h1:bld2 wx=bld2 wb∨bld2 wx=bld2 wy
 ·rw [if_pos h1]
  congr 1
  rcases h1 with h1 | h1
  ·obtain ⟨a0,a1⟩:=aLy hx hb h1
   exact aJa (by simp [newB,a0]) (by simp [newB,a1])
  ·obtain ⟨a0,a1⟩:=aLy hx hy h1
   exact aJa (by simp [newB,a0]) (by simp [newB,a1])
 rw [if_neg h1]
 by_cases h2:bld2 wy=bld2 wb
 ·rw [if_pos h2]
  congr 1
  obtain ⟨a0,a1⟩:=aLy hy hb h2
  have e:∀ o x:List UInt8,x=newB o x o:=fun o x=>by unfold newB; split <;> first | assumption | rfl
  exact aJa (by simp only [a0]; exact e _ _) (by simp only [a1]; exact e _ _)
 rw [if_neg h2]
 have hord:aCp (aAb (bld2 wx)) (aAb (bld2 wy))=aAb (bld2 wx):=aU4 (by rw [aBu hx,aBu hy]; rfl)
 have hl:aB4 (some []) (some []) (some [])=(some [],false):=by unfold aB4; rw [if_pos rfl]
 simp only [hord]
 have hjoin:=aKy (bld2 fun k=>newB (wb k) (wx k) (wy k))
 rw [aBu hn] at hjoin
 have g:∀ w:Nat→List UInt8,(∀ k,BdL (w k))→(txtU (aAb (bld2 w)) ([],0)=some []∧txtU (aAb (bld2 w)) ([83],0)=some (tbB ([83],w 0))∧txtU (aAb (bld2 w)) ([82],0)=some (tbB ([82],w 1))):=fun w hw=>by
  rw [aBu hw]
  refine ⟨?_,?_,?_⟩ <;> simp [aJw,Un.nm]
 obtain ⟨b0,b1,b2⟩:=g wb hb
 obtain ⟨x0,x1,x2⟩:=g wx hx
 obtain ⟨y0,y1,y2⟩:=g wy hy
 have hr:aIq (aAb (bld2 wb)) (aAb (bld2 wx)) (aAb (bld2 wy)) (aAb (bld2 wx))=[⟨[],0,[]⟩,⟨[83],0,tbB ([83],newB (wb 0) (wx 0) (wy 0))⟩,⟨[82],0,tbB ([82],newB (wb 1) (wx 1) (wy 1))⟩]:=by
  rw [aIu,show (aAb (bld2 wx)).map Un.nm=[([],0),([83],0),([82],0)] from by rw [aBu hx]; rfl]
  simp only [aL6,List.filterMap_cons,List.filterMap_nil,b0,b1,b2,x0,x1,x2,y0,y1,y2,hl,aGv (h 0),aGv (h 1),Option.map_some]
 have hc:aE5 (aAb (bld2 wb)) (aAb (bld2 wx)) (aAb (bld2 wy)) (aAb (bld2 wx))=[]:=by
  rw [aXn,show (aAb (bld2 wx)).map Un.nm=[([],0),([83],0),([82],0)] from by rw [aBu hx]; rfl]
  simp [aW9,List.filter_cons,b0,b1,b2,x0,x1,x2,y0,y1,y2,hl,aGv (h 0),aGv (h 1)]
 rw [hr,hc,hjoin]
end Go.Ab
namespace Go.Ab
variable {P:Program} {F T:Nat→Nat}
theorem bMq:∀ x,x∈aFd→∃ y,x=y++[10]∧ClL y:=by
 intro x hx
 simp only [aFd,List.mem_cons,List.not_mem_nil,or_false] at hx
 rcases hx with rfl | rfl | rfl | rfl | rfl
 ·exact ⟨[111,110,101],rfl,by decide,by unfold Lit; decide,by decide⟩
 ·exact ⟨[116,119,111,32,119,111,114,100,115],rfl,by decide,by unfold Lit; decide,by decide⟩
 ·exact ⟨[116,104,114,101,101],rfl,by decide,by unfold Lit; decide,by decide⟩
 ·exact ⟨[],rfl,by decide,by unfold Lit; decide,by decide⟩
 ·exact ⟨[102,111,117,114,32,52],rfl,by decide,by unfold Lit; decide,by decide⟩
theorem bJw (l:List Int) (a:Nat) (s:Int):aFd.getD (srV l a s 5).toNat []∈aFd:=by
 have h:=aK3 l a s (n:=5) (by decide)
 obtain ⟨i,hi⟩:∃ i,i=(srV l a s 5).toNat:=⟨_,rfl⟩
 rw [← hi]
 have h5:i<5:=by omega
 match i,h5 with
 | 0,_=>decide
 | 1,_=>decide
 | 2,_=>decide
 | 3,_=>decide
 | 4,_=>decide
theorem aV8 (a b:List (List UInt8)):lnB (a++b)=lnB a++lnB b:=by simp [lnB]
theorem bE4 (l:List Int):∀ (k a:Nat) (s:Int) (ls:List (List UInt8)),(∀ x,x∈ls→ClL x)→∃ ls2,bdG l k a s (lnB ls)=lnB ls2∧(∀ x,x∈ls2→ClL x)∧ls2.length=ls.length+k
 | 0,a,s,ls,h=>⟨ls,rfl,h,rfl⟩
 | k+1,a,s,ls,h=>by
   obtain ⟨y,hy,hc⟩:=bMq _ (bJw l a s)
   obtain ⟨ls2,h1,h2,h3⟩:=bE4 l k (srA l a) (srS l a s) (ls++[y]) (fun x hx=>by
    rcases List.mem_append.1 hx with hx | hx
    ·exact h x hx
    ·rw [List.mem_singleton.1 hx]; exact hc)
   refine ⟨ls2,?_,h2,by rw [h3,List.length_append,List.length_cons,List.length_nil]; omega⟩
   rw [bdG,hy,← h1,aV8]
   simp [lnB]
theorem aSd (l:List Int):∃ z,bdyF l=z++[10]∧BdL z:=by
 obtain ⟨ls,h1,h2,h3⟩:=bE4 l (1+(srV l 0 (sdL l) 3).toNat) (srA l 0) (srS l 0 (sdL l)) [] (fun x hx=>by cases hx)
 have hne:ls≠[]:=fun e=>by subst e; simp at h3; omega
 have he:=List.dropLast_concat_getLast hne
 have hz:lnB ls=(lnB ls.dropLast++ls.getLast hne)++[10]:=by
  conv=>lhs; rw [← he]
  rw [aV8]
  simp [lnB]
 have h1:bdyF l=lnB ls:=h1
 exact ⟨_,by rw [h1,hz],ls,hz.symm,h2⟩
def hSS2:List UInt8:=[61,61,32,83,32,61,61,10]
def hRR2:List UInt8:=[61,61,32,82,32,61,61,10]
def tx2 (a b:List UInt8):List UInt8:=((hSS2++a)++hRR2)++b
def pr2 (a b:List UInt8) (k:Nat):List UInt8:=if k=0 then a else b
theorem bEm (a b:List UInt8):tx2 (a++[10]) (b++[10])=bld2 (pr2 a b):=by simp [tx2,bld2,bls2,catB,tbB,hlB,hSS2,hRR2,pr2]
theorem aGf {a b:List UInt8} (ha:BdL a) (hb:BdL b) (k:Nat):BdL (pr2 a b k):=by unfold pr2; split <;> assumption
theorem aWf {a b c d:List UInt8} (ha:BdL a) (hb:BdL b) (hc:BdL c) (hd:BdL d):aGe (bld2 (pr2 a b)) (bld2 (pr2 c b)) (bld2 (pr2 a d))=(bld2 (pr2 c d),[]):=by
 rw [aLj (aGf ha hb) (aGf hc hb) (aGf ha hd) fun k=>by unfold pr2; by_cases h:k=0 <;> simp [h]]
 congr 1
 refine aJa ?_ ?_
 ·simp only [pr2,if_true,newB]; split
  ·rename_i e; exact e.symm
  ·rfl
 ·simp [pr2,newB]
theorem aTm {a b c d:List UInt8} (ha:BdL a) (hb:BdL b) (hc:BdL c) (hd:BdL d):aGe (bld2 (pr2 a b)) (bld2 (pr2 a d)) (bld2 (pr2 c b))=(bld2 (pr2 c d),[]):=by
 rw [aLj (aGf ha hb) (aGf ha hd) (aGf hc hb) fun k=>by unfold pr2; by_cases h:k=0 <;> simp [h]]
 congr 1
 refine aJa ?_ ?_
 ·simp [pr2,newB]
 ·simp only [pr2,newB,Nat.one_ne_zero,if_false]; split
  ·rename_i e; exact e.symm
  ·rfl
theorem has2 {w v:Nat→List UInt8} (hw:∀ k,BdL (w k)) (hv:∀ k,BdL (v k)):∀ u,u∈aAb (bld2 w)→hasU (aAb (bld2 v)) u.nm=true:=by
 rw [aBu hw,aBu hv]
 intro u hu
 simp only [List.mem_cons,List.not_mem_nil,or_false] at hu
 rcases hu with rfl | rfl | rfl <;> simp [hasU,Un.nm]
theorem aRu (a b:List UInt8):(tx2 a b).length=16+a.length+b.length:=by simp only [tx2,hSS2,hRR2,List.length_append,List.length_cons,List.length_nil]; omega
end Go.Ab
namespace Go.Ab
variable {P:Program} {F T:Nat→Nat}
theorem bJ5:∀ x,x∈aFd→Lit x:=by
 intro x hx
 simp only [aFd,List.mem_cons,List.not_mem_nil,or_false] at hx
 unfold Lit
 rcases hx with rfl | rfl | rfl | rfl | rfl <;> decide
theorem aZ9 (l:List Int):∀ (k a:Nat) (s:Int) (t:List UInt8),Lit t→Lit (bdG l k a s t)
 | 0,_,_,_,h=>h
 | k+1,a,s,t,h=>aZ9 l k _ _ _ (h.app (bJ5 _ (bJw l a s)))
theorem aYd (l:List Int):Lit (bdyF l):=aZ9 l _ _ _ [] (fun b hb=>by cases hb)
theorem aPw (a b:List Int):Lit (tx2 (bdyF a) (bdyF b)):=by
 have h1:Lit hSS2:=by unfold Lit hSS2; decide
 have h2:Lit hRR2:=by unfold Lit hRR2; decide
 exact ((h1.app (aYd a)).app h2).app (aYd b)
theorem aMa (K:MrgL P F T) (hS:∀ s:List UInt8,s.length≤8192→Lit s→aQ8 P (F 124) s) (la lb lc ld:List Int) (sw:Bool):PTr P (F 257) [.str (tx2 (bdyF la) (bdyF lb)),.str (if sw then tx2 (bdyF la) (bdyF ld) else tx2 (bdyF lc) (bdyF lb)),.str (if sw then tx2 (bdyF lc) (bdyF lb) else tx2 (bdyF la) (bdyF ld))]
 (.tup [.agg [.str (tx2 (bdyF lc) (bdyF ld)),.nils],.int .i64 0]):=by
 have l1:=aDx la
 have l2:=aDx lb
 have l3:=aDx lc
 have l4:=aDx ld
 have m1:=aPw la lb
 have m2:=aPw la ld
 have m3:=aPw lc lb
 obtain ⟨a,ea,ha⟩:=aSd la
 obtain ⟨b,eb,hb⟩:=aSd lb
 obtain ⟨c,ec,hc⟩:=aSd lc
 obtain ⟨d,ed,hd⟩:=aSd ld
 have n1:=aRu (bdyF la) (bdyF lb)
 have n2:=aRu (bdyF la) (bdyF ld)
 have n3:=aRu (bdyF lc) (bdyF lb)
 rw [ea,eb] at n1 m1
 rw [ea,ed] at n2 m2
 rw [ec,eb] at n3 m3
 rw [ea] at l1; rw [eb] at l2; rw [ec] at l3; rw [ed] at l4
 rw [ea,eb,ec,ed]
 rw [bEm] at n1 n2 n3 m1 m2 m3
 simp only [bEm]
 cases sw
 ·have h:=bK1 K (bld2 (pr2 a b)) (bld2 (pr2 c b)) (bld2 (pr2 a d)) (by omega) (by omega) (by omega) (hS _ (by omega) m1) (hS _ (by omega) m3) (hS _ (by omega) m2) (by omega) fun _=>.inr (has2 (aGf ha hd) (aGf hc hb))
  rw [aWf ha hb hc hd] at h
  exact h
 ·have h:=bK1 K (bld2 (pr2 a b)) (bld2 (pr2 a d)) (bld2 (pr2 c b)) (by omega) (by omega) (by omega) (hS _ (by omega) m1) (hS _ (by omega) m2) (hS _ (by omega) m3) (by omega) fun _=>.inr (has2 (aGf hc hb) (aGf ha hd))
  rw [aTm ha hb hc hd] at h
  exact h
end Go.Ab
