/- Several texts of one kind, merged. No condition. -/
import Derived.Test.YtgdllpgidgiccaaGreatDoorAbM5
import Derived.Test.YtgdllpgidgiccaaGreatDoorAbM7
import Derived.Test.YtgdllpgidgiccaaGreatDoorAbR8
set_option linter.unusedSimpArgs false
set_option linter.unusedVariables false
namespace Go.Ab
def c274 (F T:Nat→Nat):C :=
 .n [.mov (some 6) (.k (.bool false))] <|
 .seq (.seq (.ops false [⟨none,[.m 17 1,.ls 18 17,.bi 19 .gtr 18 100,.m 20 19]⟩,
 ⟨some (20,false),[.m 21 2,.ls 22 21,.bi 23 .gtr 22 100]⟩,
 ⟨none,[.pt 24 20 23,.m 25 24]⟩,
 ⟨some (25,false),[.m 26 1,.m 27 2,.b 28 .add 26 27,.c 29 (F 54) [.t 28,.s [61,123,125,91,93,60,10]]]⟩,
 ⟨none,[.pt 30 25 29]⟩]) <|
 .cond (.t 30)
 (.n [.c 31 (F 254) [],.m 6 31] <|
 .ret)
 (.skip)) <|
 .n [.m 32 0,.bi 33 .and 32 3,.m 34 0,.bin (some 35) .shr (.t 34) (.k (.int .u64 2)),.bi 36 .and 35 3,.m 7 33,.m 8 36] <|
 .seq (.n [.m 37 7,.m 38 8,.b 39 .eql 37 38] <|
 .cond (.t 39)
 (.n [.c 40 (F 254) [],.m 6 40] <|
 .ret)
 (.skip)) <|
 .n [.c 42 (F 275) [(.k (.int .i64 (-1))),.s []],.m 43 7,.m 44 1,.c 45 (F 275) [.t 43,.t 44],.m 46 8,.m 47 2,.c 48 (F 275) [.t 46,.t 47],.c 49 (F 257) [.t 42,.t 45,.t 48],.m 41 49,.x 50 0 41,.x 51 1 41,.alloc 9 (T 27) [(.str []),.nils],.store 2 (.t 9) (.t 50),.m 10 51] <|
 .seq (.seq (.ops false [⟨none,[.m 52 10,.bi 53 .neq 52 0,.m 54 53]⟩,
 ⟨some (54,false),[.f 55 1 9,.l 56 55,.ll 57 56,.bi 58 .neq 57 0]⟩,
 ⟨none,[.pt 59 54 58]⟩]) <|
 .cond (.t 59)
 (.n [.mov (some 6) (.k (.bool false))] <|
 .ret)
 (.skip)) <|
 .n [.f 61 0 9,.l 62 61,.c 63 (F 159) [.t 62],.m 60 63,.x 64 0 60,.x 65 1 60,.m 11 64,.m 12 65] <|
 .n [.f 67 0 9,.l 68 67,.m 69 7,.c 70 (F 163) [.t 68,.t 69],.m 66 70,.x 71 0 66,.x 72 1 66,.m 13 71,.m 14 72] <|
 .n [.f 74 0 9,.l 75 74,.m 76 8,.c 77 (F 163) [.t 75,.t 76],.m 73 77,.x 78 0 73,.x 79 1 73,.m 15 78,.m 16 79] <|
 .seq (.ops false [⟨none,[.m 80 11,.ll 81 80,.bi 82 .eql 81 4,.m 83 82]⟩,
 ⟨some (83,true),[.m 84 13,.m 85 1,.bin (some 86) .add (.t 85) (.s [10]),.b 87 .eql 84 86]⟩,
 ⟨none,[.pf 88 83 87,.m 89 88]⟩,
 ⟨some (89,true),[.m 90 15,.m 91 2,.bin (some 92) .add (.t 91) (.s [10]),.b 93 .eql 90 92]⟩,
 ⟨none,[.pf 94 89 93,.m 95 94]⟩,
 ⟨some (95,true),[.c 96 (F 254) []]⟩,
 ⟨none,[.pf 97 95 96,.m 6 97]⟩]) <|
 .ret
abbrev bKu (P:Program) (F T:Nat→Nat):Prop:=Fn P (F 274) 98 [(6,none)] (c274 F T)
def c275 (F T:Nat→Nat):C :=
 .n [.mov (some 4) (.s [])] <|
 .n [.mkl (some 8) 1 [.s [65],.s [66],.s [67],.s [68]],.m 5 8] <|
 .n [.mov (some 6) (.s [108,101,97,100,10])] <|
 .seq (.n [.mov (some 7) (.i 0)] <|
 .block 0 <|
 .loop <|
 .seq (.n [.m 9 7,.m 10 5,.ll 11 10,.b 12 .lss 9 11] <|
 .cond (.t 12)
 (.skip)
 (.exit 0)) <|
 .seq (.block 1 <|
 .n [.m 15 6,.bin (some 16) .add (.t 15) (.s [61,61,32]),.m 17 5,.m 18 7,.ia 19 1 17 18,.l 20 19,.b 21 .add 16 20,.bin (some 22) .add (.t 21) (.s [32,61,61,10]),.m 6 22] <|
 .n [.m 23 7,.m 24 0,.b 25 .eql 23 24] <|
 .cond (.t 25)
 (.o [.m 26 6,.m 27 1,.b 28 .add 26 27,.bin (some 29) .add (.t 28) (.s [10]),.m 6 29])
 (.o [.m 30 6,.bin (some 31) .add (.t 30) (.s [111,108,100,10]),.m 6 31])) <|
 .o [.m 13 7,.bi 14 .add 13 1,.m 7 14]) <|
 .n [.m 32 6,.m 4 32] <|
 .ret
abbrev bHo (P:Program) (F T:Nat→Nat):Prop:=Fn P (F 275) 33 [(4,none)] (c275 F T)
end Go.Ab
namespace Go.Ab
variable {P:Program} {F T:Nat→Nat}
open Go.Lib
def wB (i:Int) (s:List UInt8) (k:Nat):List UInt8:=if (k:Int)=i then s else oldB
theorem t275 (hf:bHo P F T) (i:Int) (s:List UInt8) (hs:s.length≤100):PTr P (F 275) [.int .i64 i,.str s] (.str (bldB (wB i s))):=by
 refine ptrC [] hf (by simp) rfl ?_
 simp only [c275,push_cast,seval,-Nat.reducePow]
 refine aAh (fun m s1=>∃ k,k≤4∧m=4-k∧s1.env 0=.int .i64 i∧s1.env 1=.str s∧s1.env 5=.lst 1 [.str [65],.str [66],.str [67],.str [68]]∧s1.env 6=.str (aHg++[10]++catB ((blsB (wB i s)).take k))∧s1.env 7=.int .i64 k) 4 ⟨0,?_⟩ fun m s1 hJ=>?_
 ·simp only [push_cast,seval,-Nat.reducePow]
  rfl
 ·obtain ⟨k,hk,rfl,j0,j1,j5,j6,j7⟩:=hJ
  have hwl:∀ k,(wB i s k).length≤100:=fun k=>by unfold wB; split; exact hs; decide
  have hp:(aHg++[10]++catB ((blsB (wB i s)).take k)).length≤1000:=by
   have h1:(catB ((blsB (wB i s)).take k)).length≤(catB (blsB (wB i s))).length:=by
    conv=>rhs; rw [← List.take_append_drop k (blsB (wB i s))]
    unfold catB
    rw [List.flatMap_append,List.length_append]
    omega
   have h2:=aLw hwl
   unfold bldB at h2
   simp only [List.length_append] at h2 ⊢
   omega
  obtain ⟨q,hq⟩:∃ q,q=aHg++[10]++catB ((blsB (wB i s)).take k):=⟨_,rfl⟩
  rw [← hq] at j6 hp
  have step:∀ t:List UInt8,k<4→(blsB (wB i s)).getD k ([],[])=(t,wB i s k)→aHg++[10]++catB ((blsB (wB i s)).take (k+1))=q++[61,61,32]++t++[32,61,61,10]++(wB i s k++[10]):=fun t h4 ht=>by
   have h5:k<(blsB (wB i s)).length:=h4
   rw [List.take_add_one,List.getElem?_eq_getElem h5]
   have e:(blsB (wB i s))[k]=(t,wB i s k):=by rw [← ht]; simp [List.getD,h5]
   rw [e,hq]
   simp [catB,tbB,hlB]
  have hk4:k=0∨k=1∨k=2∨k=3∨k=4:=by omega
  rcases hk4 with rfl | rfl | rfl | rfl | rfl
  ·have st:=step [65] (by omega) rfl
   by_cases h:(0:Int)=i
   ·have hw:wB i s 0=s:=if_pos h
    rw [hw] at st
    subst h
    simp only [push_cast,seval,-Nat.reducePow,j0,j1,j5,j6,j7]
    refine ⟨by first | omega | (simp only [List.length_append,List.length_cons,List.length_nil]; omega),by first | omega | (simp only [List.length_append,List.length_cons,List.length_nil]; omega),by first | omega | (simp only [List.length_append,List.length_cons,List.length_nil]; omega),by first | omega | (simp only [List.length_append,List.length_cons,List.length_nil]; omega),by first | omega | (simp only [List.length_append,List.length_cons,List.length_nil]; omega),3,by omega,1,by omega,by omega,?_,rfl⟩
    rw [st]
    simp
   ·have hw:wB i s 0=oldB:=if_neg h
    rw [hw] at st
    simp only [push_cast,seval,-Nat.reducePow,j0,j1,j5,j6,j7,h]
    refine ⟨by first | omega | (simp only [List.length_append,List.length_cons,List.length_nil]; omega),by first | omega | (simp only [List.length_append,List.length_cons,List.length_nil]; omega),by first | omega | (simp only [List.length_append,List.length_cons,List.length_nil]; omega),by first | omega | (simp only [List.length_append,List.length_cons,List.length_nil]; omega),3,by omega,1,by omega,by omega,?_,rfl⟩
    rw [st]
    simp [oldB]
  ·have st:=step [66] (by omega) rfl
   by_cases h:(1:Int)=i
   ·have hw:wB i s 1=s:=if_pos h
    rw [hw] at st
    subst h
    simp only [push_cast,seval,-Nat.reducePow,j0,j1,j5,j6,j7]
    refine ⟨by first | omega | (simp only [List.length_append,List.length_cons,List.length_nil]; omega),by first | omega | (simp only [List.length_append,List.length_cons,List.length_nil]; omega),by first | omega | (simp only [List.length_append,List.length_cons,List.length_nil]; omega),by first | omega | (simp only [List.length_append,List.length_cons,List.length_nil]; omega),by first | omega | (simp only [List.length_append,List.length_cons,List.length_nil]; omega),2,by omega,2,by omega,by omega,?_,rfl⟩
    rw [st]
    simp
   ·have hw:wB i s 1=oldB:=if_neg h
    rw [hw] at st
    simp only [push_cast,seval,-Nat.reducePow,j0,j1,j5,j6,j7,h]
    refine ⟨by first | omega | (simp only [List.length_append,List.length_cons,List.length_nil]; omega),by first | omega | (simp only [List.length_append,List.length_cons,List.length_nil]; omega),by first | omega | (simp only [List.length_append,List.length_cons,List.length_nil]; omega),by first | omega | (simp only [List.length_append,List.length_cons,List.length_nil]; omega),2,by omega,2,by omega,by omega,?_,rfl⟩
    rw [st]
    simp [oldB]
  ·have st:=step [67] (by omega) rfl
   by_cases h:(2:Int)=i
   ·have hw:wB i s 2=s:=if_pos h
    rw [hw] at st
    subst h
    simp only [push_cast,seval,-Nat.reducePow,j0,j1,j5,j6,j7]
    refine ⟨by first | omega | (simp only [List.length_append,List.length_cons,List.length_nil]; omega),by first | omega | (simp only [List.length_append,List.length_cons,List.length_nil]; omega),by first | omega | (simp only [List.length_append,List.length_cons,List.length_nil]; omega),by first | omega | (simp only [List.length_append,List.length_cons,List.length_nil]; omega),by first | omega | (simp only [List.length_append,List.length_cons,List.length_nil]; omega),1,by omega,3,by omega,by omega,?_,rfl⟩
    rw [st]
    simp
   ·have hw:wB i s 2=oldB:=if_neg h
    rw [hw] at st
    simp only [push_cast,seval,-Nat.reducePow,j0,j1,j5,j6,j7,h]
    refine ⟨by first | omega | (simp only [List.length_append,List.length_cons,List.length_nil]; omega),by first | omega | (simp only [List.length_append,List.length_cons,List.length_nil]; omega),by first | omega | (simp only [List.length_append,List.length_cons,List.length_nil]; omega),by first | omega | (simp only [List.length_append,List.length_cons,List.length_nil]; omega),1,by omega,3,by omega,by omega,?_,rfl⟩
    rw [st]
    simp [oldB]
  ·have st:=step [68] (by omega) rfl
   by_cases h:(3:Int)=i
   ·have hw:wB i s 3=s:=if_pos h
    rw [hw] at st
    subst h
    simp only [push_cast,seval,-Nat.reducePow,j0,j1,j5,j6,j7]
    refine ⟨by first | omega | (simp only [List.length_append,List.length_cons,List.length_nil]; omega),by first | omega | (simp only [List.length_append,List.length_cons,List.length_nil]; omega),by first | omega | (simp only [List.length_append,List.length_cons,List.length_nil]; omega),by first | omega | (simp only [List.length_append,List.length_cons,List.length_nil]; omega),by first | omega | (simp only [List.length_append,List.length_cons,List.length_nil]; omega),0,by omega,4,by omega,by omega,?_,rfl⟩
    rw [st]
    simp
   ·have hw:wB i s 3=oldB:=if_neg h
    rw [hw] at st
    simp only [push_cast,seval,-Nat.reducePow,j0,j1,j5,j6,j7,h]
    refine ⟨by first | omega | (simp only [List.length_append,List.length_cons,List.length_nil]; omega),by first | omega | (simp only [List.length_append,List.length_cons,List.length_nil]; omega),by first | omega | (simp only [List.length_append,List.length_cons,List.length_nil]; omega),by first | omega | (simp only [List.length_append,List.length_cons,List.length_nil]; omega),0,by omega,4,by omega,by omega,?_,rfl⟩
    rw [st]
    simp [oldB]
  ·simp only [push_cast,seval,-Nat.reducePow,j0,j1,j5,j6,j7,hq]
   rfl
theorem aZz {i:Int} {s:List UInt8} (h:Cln s) (k:Nat):Cln (wB i s k):=by
 unfold wB
 split
 ·exact h
 ·have:∀ b,b∈oldB→b≠61∧b≠123∧b≠125∧b≠91∧b≠93∧b≠60∧b≠10:=by decide
  exact this
theorem aPj {i:Int} {s:List UInt8} (h:s.length≤100) (k:Nat):(wB i s k).length≤100:=by
 unfold wB
 split
 ·exact h
 ·decide
theorem bJf {a b:List UInt8} (h:containsAny (a++b) [61,123,125,91,93,60,10]=false):Cln a∧Cln b:=by
 have h1:=aR3 h
 have h2:∀ x,x∈a++b→x≠61∧x≠123∧x≠125∧x≠91∧x≠93∧x≠60∧x≠10:=fun x hx=>by
  have:=h1 x hx
  refine ⟨?_,?_,?_,?_,?_,?_,?_⟩ <;> (rintro rfl; revert this; decide)
 exact ⟨fun x hx=>h2 x (List.mem_append_left _ hx),fun x hx=>h2 x (List.mem_append_right _ hx)⟩
theorem law274 (hf:bKu P F T) (K:MrgFns P F T) (A:AnyC P F) (h275:bHo P F T) (h159:aOr P (F 159)) (h163:bIe P F T) (h170:bCr P F T) (kn:PTr P (F 254) [] (.bool true))
 (n:Int) (a b:List UInt8):PTr P (F 274) [.int .i64 n,.str a,.str b] (.bool true):=by
 refine ptrC [] hf (by simp) rfl ?_
 by_cases ha:100<a.length
 ·have ha':(100:Int)<(a.length:Nat):=by omega
  simp only [c274,push_cast,seval,-Nat.reducePow,ha']
  refine aAb kn (by simp only [push_cast,seval,-Nat.reducePow]) (by simp only [push_cast,seval,-Nat.reducePow]) ?_
  simp only [push_cast,seval,-Nat.reducePow,view]
 have ha':¬ (100:Int)<(a.length:Nat):=by omega
 by_cases hb:100<b.length
 ·have hb':(100:Int)<(b.length:Nat):=by omega
  simp only [c274,push_cast,seval,-Nat.reducePow,ha',hb']
  refine aAb kn (by simp only [push_cast,seval,-Nat.reducePow]) (by simp only [push_cast,seval,-Nat.reducePow]) ?_
  simp only [push_cast,seval,-Nat.reducePow,view]
 have hb':¬ (100:Int)<(b.length:Nat):=by omega
 have hA:=A (a++b) [61,123,125,91,93,60,10] (by decide) (by decide) (by simp; omega) (by decide)
 simp only [c274,push_cast,seval,-Nat.reducePow,ha',hb']
 refine ⟨by omega,?_⟩
 cases hc:containsAny (a++b) [61,123,125,91,93,60,10] with
 | true =>
   rw [hc] at hA
   refine aAb hA (by simp only [push_cast,seval,-Nat.reducePow]) (by simp only [push_cast,seval,-Nat.reducePow]) ?_
   simp only [push_cast,seval,-Nat.reducePow]
   refine aAb kn (by simp only [push_cast,seval,-Nat.reducePow]) (by simp only [push_cast,seval,-Nat.reducePow]) ?_
   simp only [push_cast,seval,-Nat.reducePow,view]
 | false =>
   rw [hc] at hA
   obtain ⟨ca,cb⟩:=bJf hc
   refine aAb hA (by simp only [push_cast,seval,-Nat.reducePow]) (by simp only [push_cast,seval,-Nat.reducePow]) ?_
   obtain ⟨i,hi,hv⟩:=aRh n 3 (by omega)
   obtain ⟨j,hj,hv2⟩:=aRh (vshr .i64 n 2) 3 (by omega)
   have hv':aLt .and .i64 n 3=(i:Int):=hv
   have hv2':aLt .and .i64 (vshr .i64 n 2) 3=(j:Int):=hv2
   simp only [push_cast,seval,-Nat.reducePow,hv',hv2']
   refine aAe (fun e=>?_) (fun e=>?_)
   ·simp only [push_cast,seval,-Nat.reducePow]
    refine aAb kn (by simp only [push_cast,seval,-Nat.reducePow]) (by simp only [push_cast,seval,-Nat.reducePow]) ?_
    simp only [push_cast,seval,-Nat.reducePow,view]
   have hij:i≠j:=fun h=>e (by rw [h])
   have hold:∀ k,wB (-1) [] k=oldB:=fun k=>if_neg (by omega)
   have c0:∀ k,Cln (wB (-1) [] k):=fun k=>aZz (fun b hb=>by cases hb) k
   have c1:∀ k,Cln (wB (i:Int) a k):=fun k=>aZz ca k
   have c2:∀ k,Cln (wB (j:Int) b k):=fun k=>aZz cb k
   have hor:∀ k,wB (i:Int) a k=wB (-1) [] k∨wB (j:Int) b k=wB (-1) [] k:=fun k=>by
    rw [hold]
    by_cases h:(k:Int)=i
    ·exact .inr (if_neg (by omega))
    ·exact .inl (if_neg h)
   have hm:=aZh c0 c1 c2 hor
   obtain ⟨wz,hwz⟩:∃ wz,wz=fun k=>newB (wB (-1) [] k) (wB (i:Int) a k) (wB (j:Int) b k):=⟨_,rfl⟩
   rw [← hwz] at hm
   have cz:∀ k,Cln (wz k):=fun k=>by rw [hwz]; simp only [newB]; split; exact c2 k; exact c1 k
   have lz:∀ k,(wz k).length≤100:=fun k=>by rw [hwz]; simp only [newB]; split; exact aPj (by omega) k; exact aPj (by omega) k
   have zi:wz i=a:=by
    rw [hwz]
    simp only [newB,hold]
    have h1:wB (i:Int) a i=a:=if_pos rfl
    have h2:wB (j:Int) b i=oldB:=if_neg (by omega)
    rw [h1,h2]
    split
    ·rename_i h; exact h.symm
    ·rfl
   have zj:wz j=b:=by
    rw [hwz]
    simp only [newB,hold]
    have h1:wB (i:Int) a j=oldB:=if_neg (by omega)
    have h2:wB (j:Int) b j=b:=if_pos rfl
    rw [h1,h2,if_pos rfl]
   have l0:=aLw (w:=wB (-1) []) (fun k=>aPj (by simp) k)
   have l1:=aLw (w:=wB (i:Int) a) (fun k=>aPj (by omega) k)
   have l2:=aLw (w:=wB (j:Int) b) (fun k=>aPj (by omega) k)
   have l3:=aLw lz
   have hmg:=t257 K (bldB (wB (-1) [])) (bldB (wB (i:Int) a)) (bldB (wB (j:Int) b)) (by omega) (by omega) (by omega) (by omega) (fun _=>.inr fun u hu=>by
    rw [aOv,aC3 c1]
    rw [aC3 c2] at hu
    simp only [List.mem_cons,List.not_mem_nil,or_false] at hu
    rcases hu with rfl | rfl | rfl | rfl | rfl <;> simp [Un.nm])
   rw [hm] at hmg
   simp only [mrgV,aNq,ln,List.map_nil] at hmg
   have hs1:=h159 (bldB wz) (by omega)
   have hlen:(secV (aCc (bldB wz))).length=4:=by rw [aCo,aUu cz]; rfl
   have hb1:=t163 h163 h170 h159 (bldB wz) (by omega) (i:Int)
   have hb2:=t163 h163 h170 h159 (bldB wz) (by omega) (j:Int)
   rw [aVe cz (by omega),zi] at hb1
   rw [aVe cz (by omega),zj] at hb2
   try simp only [push_cast,seval,-Nat.reducePow]
   refine aAb (t275 h275 (-1) [] (by simp)) (by simp only [push_cast,seval,-Nat.reducePow]) (by simp only [push_cast,seval,-Nat.reducePow]) ?_
   try simp only [push_cast,seval,-Nat.reducePow]
   refine aAb (t275 h275 (i:Int) a (by omega)) (by simp only [push_cast,seval,-Nat.reducePow]) (by simp only [push_cast,seval,-Nat.reducePow]) ?_
   try simp only [push_cast,seval,-Nat.reducePow]
   refine aAb (t275 h275 (j:Int) b (by omega)) (by simp only [push_cast,seval,-Nat.reducePow]) (by simp only [push_cast,seval,-Nat.reducePow]) ?_
   try simp only [push_cast,seval,-Nat.reducePow]
   refine aAb hmg (by simp only [push_cast,seval,-Nat.reducePow]) (by simp only [push_cast,seval,-Nat.reducePow]) ?_
   try simp only [push_cast,seval,-Nat.reducePow]
   refine aAb hs1 (by simp only [push_cast,seval,-Nat.reducePow]) (by simp only [push_cast,seval,-Nat.reducePow,aDm]) ?_
   try simp only [push_cast,seval,-Nat.reducePow]
   refine aAb hb1 (by simp only [push_cast,seval,-Nat.reducePow]) (by simp only [push_cast,seval,-Nat.reducePow]) ?_
   try simp only [push_cast,seval,-Nat.reducePow]
   refine aAb hb2 (by simp only [push_cast,seval,-Nat.reducePow]) (by simp only [push_cast,seval,-Nat.reducePow]) ?_
   simp only [push_cast,seval,-Nat.reducePow,hlen]
   refine ⟨by omega,by omega,aAb kn (by simp only [push_cast,seval,-Nat.reducePow]) (by simp only [push_cast,seval,-Nat.reducePow]) ?_⟩
   simp only [push_cast,seval,-Nat.reducePow,view]
end Go.Ab
