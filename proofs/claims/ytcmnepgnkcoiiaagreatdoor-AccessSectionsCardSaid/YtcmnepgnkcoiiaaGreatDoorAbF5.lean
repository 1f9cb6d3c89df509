/- Several texts of one kind, merged. No condition. -/
import Derived.Test.YtcmnepgnkcoiiaaGreatDoorAbF2
import Derived.Test.YtcmnepgnkcoiiaaGreatDoorAbD1
import Derived.Test.YtcmnepgnkcoiiaaGreatDoorAbG14
import Derived.Test.YtcmnepgnkcoiiaaGreatDoorAbR3
set_option linter.unusedSimpArgs false
set_option linter.unusedVariables false
namespace Go.Ab
variable {P:Program} {F T:Nat→Nat}
end Go.Ab
namespace Go.Ab
open Go.Lib
theorem aP9 (p:UInt8→Bool):∀ (l:Tx) (x:UInt8),(l.dropWhile p).head?=some x→p x=false
 | [],x,h=>by simp at h
 | y::r,x,h=>by
   rw [List.dropWhile_cons] at h
   split at h
   ·exact aP9 p r x h
   ·rename_i hy
    simp only [List.head?_cons,Option.some.injEq] at h
    subst h
    simpa using hy
theorem bDl (p:UInt8→Bool):∀ (l:Tx),(∀ x,l.head?=some x→p x=false)→l.dropWhile p=l
 | [],_=>rfl
 | y::r,h=>by rw [List.dropWhile_cons,h y rfl]; simp
theorem aVo (l cs:Tx):trimS (trimS l cs) cs=trimS l cs:=by
 have h1:∀ x,(trimS l cs).head?=some x→cs.contains x=false:=fun x h=>aP9 (cs.contains ·) _ x h
 have h2:∀ x,(trimS l cs).reverse.head?=some x→cs.contains x=false:=fun x h=>by
  have e:(trimRightS l cs).reverse=(trimS l cs).reverse++((trimRightS l cs).takeWhile (cs.contains ·)).reverse:=by
   rw [← List.reverse_append]
   congr 1
   exact (List.takeWhile_append_dropWhile ..).symm
  have h3:(trimRightS l cs).reverse.head?=some x:=by rw [e,List.head?_append,h]; rfl
  unfold trimRightS at h3
  rw [List.reverse_reverse] at h3
  exact aP9 (cs.contains ·) _ x h3
 have r:trimRightS (trimS l cs) cs=trimS l cs:=by
  show ((trimS l cs).reverse.dropWhile (cs.contains ·)).reverse=trimS l cs
  rw [bDl _ _ h2,List.reverse_reverse]
 show trimLeftS (trimRightS (trimS l cs) cs) cs=trimS l cs
 rw [r]
 exact bDl _ _ h1
theorem bBe {s:Tx} {k:Nat} {t:Tx} (h:aV6 s=some (k,t)):t≠[]∧trimS t wsp=t:=by
 unfold aV6 at h
 split at h
 ·cases h
 ·split at h
  ·cases h
  ·rename_i h2
   simp only [Option.some.injEq,Prod.mk.injEq] at h
   obtain ⟨_,rfl⟩:=h
   exact ⟨h2,aVo _ _⟩
theorem aZ2 {s:Tx} {p:List Bool} {i:Nat} {x:Sec} (h:x∈aDf s p i):x.title≠[]∧trimS x.title wsp=x.title:=by
 unfold aDf at h
 split at h
 ·split at h
  ·rename_i k t e
   rw [List.mem_singleton.1 h]
   exact bBe e
  ·cases h
 ·cases h
theorem aYe {s:Tx} {p:List Bool} {x:Sec}:∀ (n i:Nat),x∈rawF s p n i→x.title≠[]∧trimS x.title wsp=x.title
 | 0,i,h=>by cases h
 | n+1,i,h=>by
   unfold rawF at h
   split at h
   ·rcases List.mem_append.1 h with h | h
    ·exact aZ2 h
    ·exact aYe n _ h
   ·cases h
theorem bDs {x:Sec}:∀ (l:List Sec),x∈toF l→∃ y,y∈l∧y.title=x.title
 | [],h=>by cases h
 | y::r,h=>by
   rcases List.mem_cons.1 h with rfl | h
   ·exact ⟨y,by simp,rfl⟩
   ·obtain ⟨z,h1,h2⟩:=bDs r h
    exact ⟨z,List.mem_cons_of_mem _ h1,h2⟩
theorem bEs {s:Tx} {x:Sec} (h:x∈aAv s):x.title≠[]∧trimS x.title wsp=x.title:=by
 obtain ⟨y,h1,h2⟩:=bDs _ h
 rw [← h2]
 exact aYe _ _ h1
theorem aLt (n:Tx):∀ (l:List QSec) (j:Nat),(∃ q,q∈l∧q.t=n)→(aCd n l j).2=true
 | [],j,h=>by obtain ⟨q,h,_⟩:=h; cases h
 | q::r,j,h=>by
   unfold aCd
   split
   ·rfl
   ·rename_i hq
    obtain ⟨z,h1,h2⟩:=h
    rcases List.mem_cons.1 h1 with rfl | h1
    ·exact absurd h2 hq
    ·exact aLt n r (j+1) ⟨z,h1,h2⟩
def fiT (s t:Tx):Int×Bool:=aCd (trimS t wsp) ((aAv s).map Sec.q) 0
theorem bFn {old now:Tx} {i:Nat} (hi:i<(aAv old).length) (hx:(fiT old ((aAv old).getD i zsec).title).1=i) :
 aMu ((aAv old).getD i zsec).title old now=!((fiT now ((aAv old).getD i zsec).title).2&&decide (aGx now (fiT now ((aAv old).getD i zsec).title).1=aGx old i)):=by
 have hm:(aAv old).getD i zsec∈aAv old:=by simp [List.getD,hi]
 obtain ⟨h1,h2⟩:=bEs hm
 have hf:(fiT old ((aAv old).getD i zsec).title).2=true:=aLt _ _ _ ⟨_,List.mem_map_of_mem hm,h2.symm⟩
 generalize ((aAv old).getD i zsec).title=t at *
 have p1:aIu old t=(aGx old i,true):=by
  show (if (fiT old t).2 then (aGx old (fiT old t).1,true) else ([],false))=_
  rw [hf,hx]; rfl
 have p2:aIu now t=if (fiT now t).2 then (aGx now (fiT now t).1,true) else ([],false):=rfl
 unfold aMu
 rw [if_neg h1,p1,p2]
 cases hb:(fiT now t).2 with
 | true =>
   simp only [if_true,Bool.true_and]
   by_cases e:aGx now (fiT now t).1=aGx old i
   ·simp [e]
   ·have e':¬ aGx old i=aGx now (fiT now t).1:=fun q=>e q.symm
    simp [e,e']
 | false=>simp
def sT6:Tx:=[115,116,97,102,102]
def elT:Tx:=[69,108,115,101,119,104,101,114,101]
theorem aQn (g:List Tx) (sp sp2:Int) (n n2 old now t:Tx):chgF g sp n old now [⟨true,sT6,sp2,n2,t⟩] 1=if hitG g sp n old now ⟨true,sT6,sp2,n2,t⟩ then 3 else 1:=by simp [chgF]
theorem bIc:elT∉aO6:=by decide
end Go.Ab
namespace Go.Ab
open Go.Lib
variable {P:Program} {F T:Nat→Nat}
theorem aZf (s:Tx) (i:Int) (t:Tx):(aPx s i t).1.length≤s.length+t.length+1:=by
 obtain ⟨o1,o2,o3⟩:=aHp s i
 have:=aTa s t (aCy (aAv s) i)
 unfold aPx
 split
 ·split
  ·simp
  ·simp only [List.length_append,List.length_take,List.length_drop]; omega
 ·simp
theorem law215 (hf:bGv P F T) (K:TC3 P F T) (K2:TC2 P F T) (h39:Is39 P F T) (C:ChgC P F T) (h167:bEp P F T) (h170:bAz P F T) (kn:PTr P (F 176) [] (.bool true)) (es:List V) (hi:V.imms es=true) (hes:∀ e,e∈es→∃ m,e=.int .i64 m) (n:Int) (text:Tx) :
 PTr P (F 215) [.lst 1 es,.int .i64 n,.str text] (.bool true):=by
 refine bAw fun hl=>?_
 refine ptrC [] hf (by simp [hi]) rfl ?_
 simp only [c215,push_cast,seval,-Nat.reducePow]
 refine aAa (n39f h39 es hi hes hl) ?_
 rintro v L0 n0 ⟨p,rfl,hp,hn,hT,hfr⟩
 refine aAa (n40 K2 1 (by omega) hT (by omega)) ?_
 rintro v L1 n1 ⟨old,rfl,hol,hT1⟩
 have le1:=hT1.le
 have htb:bEt 1=7400:=rfl
 rw [htb] at hol
 refine aAa (n213 K.toTC K.h213 hT1.tb (by omega)) ?_
 rintro v L2 n2 ⟨sp,q,hsp,hq,rfl,hT2⟩
 have le2:=hT2.le
 have hs1:=C.s2 old (by omega)
 have hsl:=aCj (aAv old)
 simp only [push_cast,seval,-Nat.reducePow,ttV]
 refine aAb hs1 (by simp only [push_cast,seval,-Nat.reducePow]) (by simp only [push_cast,seval,-Nat.reducePow,aCn]) ?_
 simp only [push_cast,seval,-Nat.reducePow]
 by_cases a1:(aAv old).length=0
 ·have a1':(((aAv old).length:Nat):Int)=0:=by omega
  simp only [push_cast,seval,-Nat.reducePow,hsl,a1']
  refine aAb kn (by simp only [push_cast,seval,-Nat.reducePow]) (by simp only [push_cast,seval,-Nat.reducePow]) ?_
  simp only [push_cast,seval,-Nat.reducePow,view]
 have a1':¬ (((aAv old).length:Nat):Int)=0:=by omega
 by_cases a2:200<text.length
 ·have a2':(200:Int)<((text.length:Nat):Int):=by omega
  simp only [push_cast,seval,-Nat.reducePow,hsl,a1',a2']
  refine aAb kn (by simp only [push_cast,seval,-Nat.reducePow]) (by simp only [push_cast,seval,-Nat.reducePow]) ?_
  simp only [push_cast,seval,-Nat.reducePow,view]
 have a2':¬ (200:Int)<((text.length:Nat):Int):=by omega
 by_cases a3:1000<old.length
 ·have a3':(1000:Int)<((old.length:Nat):Int):=by omega
  simp only [push_cast,seval,-Nat.reducePow,hsl,a1',a2',a3']
  refine aAb kn (by simp only [push_cast,seval,-Nat.reducePow]) (by simp only [push_cast,seval,-Nat.reducePow]) ?_
  simp only [push_cast,seval,-Nat.reducePow,view]
 have a3':¬ (1000:Int)<((old.length:Nat):Int):=by omega
 obtain ⟨k,hk,hv⟩:=aNz n 65535 (by decide)
 have hv':aKt .and .i64 n 65535=k:=hv
 obtain ⟨i,hid⟩:∃ i,i=k % (aAv old).length:=⟨_,rfl⟩
 have hi:i<(aAv old).length:=by rw [hid]; exact Nat.mod_lt _ (by omega)
 have hmod:(k:Int).tmod ((aAv old).length:Nat)=(i:Nat):=by rw [hid]; exact (Int.ofNat_tmod k _).symm
 have hrep:=t167 h167 h170 C.s2 old (by omega) i text (by omega)
 simp only [push_cast,seval,-Nat.reducePow,hsl,a1',a2',a3',hv',hmod]
 refine aAb hrep (by simp only [push_cast,seval,-Nat.reducePow]) (by simp only [push_cast,seval,-Nat.reducePow]) ?_
 have hrl:=aZf old i text
 obtain ⟨now,hnow⟩:∃ now,(aPx old i text).1=now:=⟨_,rfl⟩
 obtain ⟨ee,hee⟩:∃ ee,(aPx old i text).2=ee:=⟨_,rfl⟩
 rw [hnow] at hrl
 have hx:(secV (aAv old)).getD i .junk=((aAv old).getD i zsec).v:=by simp [secV,List.getD,hi]
 obtain ⟨S,hS⟩:∃ S,(aAv old).getD i zsec=S:=⟨_,rfl⟩
 have hlaw:=bFn (old:=old) (now:=now) hi
 have hpS:aCy (aAv old) i=S:=by unfold aCy; rw [if_pos (by omega)]; exact hS
 obtain ⟨o1,o2,o3⟩:=aHp old i
 have hto:aGx old i=(old.take S.to).drop S.fr:=by unfold aGx; rw [hpS]
 rw [hpS] at o1 o2 o3
 rw [hS] at hx hlaw
 obtain ⟨lv,tt,fr,bd,to⟩:=S
 simp only [Sec.v] at hx hlaw o1 o2 o3 hto
 have hoq:=aM7 old
 have c2:=t129 C.h129 C.h125 C.h138 ((aAv old).map Sec.q) tt (by rw [List.length_map]; omega)
 rw [← aWc] at c2
 have c2':PTr P (F 129) [.lst 5 (secV (aAv old)),.str tt] (.tup [.int .i64 (fiT old tt).1,.bool (fiT old tt).2]):=c2
 simp only [push_cast,seval,-Nat.reducePow,hnow,hee,hmod,hx,hsl]
 refine ⟨hi,?_⟩
 refine aAb c2' (by simp only [push_cast,seval,-Nat.reducePow,aCn]) (by simp only [push_cast,seval,-Nat.reducePow]) ?_
 simp only [push_cast,seval,-Nat.reducePow,hmod]
 by_cases e0:¬ ee=0
 ·simp only [push_cast,seval,-Nat.reducePow,e0]
  refine aAb kn (by simp only [push_cast,seval,-Nat.reducePow]) (by simp only [push_cast,seval,-Nat.reducePow]) ?_
  simp only [push_cast,seval,-Nat.reducePow,view]
 have e0:ee=0:=Decidable.not_not.1 e0
 by_cases e1:¬ (fiT old tt).1=i
 ·simp only [push_cast,seval,-Nat.reducePow,e0,e1,hmod]
  refine aAb kn (by simp only [push_cast,seval,-Nat.reducePow]) (by simp only [push_cast,seval,-Nat.reducePow]) ?_
  simp only [push_cast,seval,-Nat.reducePow,view]
 have e1:(fiT old tt).1=i:=Decidable.not_not.1 e1
 have hlaw:=hlaw e1
 have hsn:=C.s2 now (by omega)
 have hnq:=aM7 now
 have hnl:=aCj (aAv now)
 have c3:=t129 C.h129 C.h125 C.h138 ((aAv now).map Sec.q) tt (by rw [List.length_map]; omega)
 rw [← aWc] at c3
 have c3':PTr P (F 129) [.lst 5 (secV (aAv now)),.str tt] (.tup [.int .i64 (fiT now tt).1,.bool (fiT now tt).2]):=c3
 simp only [push_cast,seval,-Nat.reducePow,e0,e1,hmod,hx,hsl]
 refine ⟨hi,aAb hsn (by simp only [push_cast,seval,-Nat.reducePow]) (by simp only [push_cast,seval,-Nat.reducePow,aCn]) ?_⟩
 simp only [push_cast,seval,-Nat.reducePow,hmod,hx,hsl]
 refine ⟨hi,aAb c3' (by simp only [push_cast,seval,-Nat.reducePow,aCn]) (by simp only [push_cast,seval,-Nat.reducePow]) ?_⟩
 have hqe:¬ q=elT:=fun e=>bIc (e ▸ hq)
 have c4:=aZi C (g:=[aT]) (by simp) (grV []) [] [⟨true,sT6,sp,q,tt⟩] (aM3 []) (by simp) sp q old now (by omega) (by omega)
 have c5:=aZi C (g:=[sT6]) (by simp) (grV []) [] [⟨true,sT6,sp,q,tt⟩] (aM3 []) (by simp) sp q old now (by omega) (by omega)
 have c6:=aZi C (g:=[]) (by simp) (grV []) [] [⟨true,sT6,sp,q,tt⟩] (aM3 []) (by simp) 0 elT old now (by omega) (by omega)
 have k4:hitG [aT] sp q old now ⟨true,sT6,sp,q,tt⟩=aMu tt old now:=by
  have:[aT].contains sT6=false:=by decide
  simp only [hitG,this,decide_true,Bool.true_and,Bool.not_false]
 have k5:hitG [sT6] sp q old now ⟨true,sT6,sp,q,tt⟩=false:=by
  have:[sT6].contains sT6=true:=by decide
  simp only [hitG,this,decide_true,Bool.true_and,Bool.not_true,Bool.false_and]
 have k6:hitG [] 0 elT old now ⟨true,sT6,sp,q,tt⟩=false:=by
  simp only [hitG,decide_eq_false hqe,Bool.and_false,Bool.false_and]
 rw [aQn,k4,hlaw] at c4
 rw [aQn,k5] at c5
 rw [aQn,k6] at c6
 simp only [polV,ttV,List.map_cons,List.map_nil,gdV,Grd.v,ruV,grV,aT,sT6,elT] at c4 c5 c6
 cases hok:(fiT now tt).2 with
 | false =>
   rw [hok] at c4
   simp only [Bool.false_and,Bool.not_false,if_true] at c4
   simp only [push_cast,seval,-Nat.reducePow,hok,hmod]
   refine aC0 c4 (by simp only [aAn,aA3,aB6,aB0,aA9,and_true]) (by simp only [push_cast,seval,-Nat.reducePow]) (by simp only [push_cast,seval,-Nat.reducePow]) ?_
   simp only [push_cast,seval,-Nat.reducePow,hok]
   refine aC0 c5 (by simp only [aAn,aA3,aB6,aB0,aA9,and_true]) (by simp only [push_cast,seval,-Nat.reducePow]) (by simp only [push_cast,seval,-Nat.reducePow]) ?_
   simp only [push_cast,seval,-Nat.reducePow]
   refine aC0 c6 (by simp only [aAn,aA3,aB6,aB0,aA9,and_true]) (by simp only [push_cast,seval,-Nat.reducePow]) (by simp only [push_cast,seval,-Nat.reducePow]) ?_
   simp only [push_cast,seval,-Nat.reducePow]
   refine aAb kn (by simp only [push_cast,seval,-Nat.reducePow]) (by simp only [push_cast,seval,-Nat.reducePow]) ?_
   simp only [push_cast,seval,-Nat.reducePow,view]
 | true =>
   obtain ⟨j,hj1,hj2⟩:=aNs _ _ _ hok
   have hj1':(fiT now tt).1=(j:Nat):=by rw [show (fiT now tt).1=_ from hj1]; simp
   rw [List.length_map] at hj2
   obtain ⟨z1,z2,z3⟩:=aHp now j
   have hy:(secV (aAv now)).getD j .junk=((aAv now).getD j zsec).v:=by simp [secV,List.getD,hj2]
   have hpj:aCy (aAv now) j=(aAv now).getD j zsec:=by unfold aCy; rw [if_pos (by omega)]; rfl
   have htj:aGx now j=(now.take ((aAv now).getD j zsec).to).drop ((aAv now).getD j zsec).fr:=by unfold aGx; rw [hpj]
   rw [hok,hj1',hto,htj] at c4
   rw [hpj] at z1 z2 z3
   generalize (aAv now).getD j zsec=S2 at *
   obtain ⟨lv2,tt2,fr2,bd2,to2⟩:=S2
   simp only [Sec.v] at hy z1 z2 z3 c4
   simp only [Bool.true_and] at c4
   simp only [push_cast,seval,-Nat.reducePow,hj1',hok,hmod,hy,hx,hsl,hnl]
   refine ⟨hj2,hj2,by omega,z3,hi,hi,by omega,o3,?_⟩
   by_cases e:List.drop fr2 (List.take to2 now)=List.drop fr (List.take to old)
   ·simp only [e,decide_true,Bool.not_true,Bool.false_eq_true,if_false] at c4
    simp only [push_cast,seval,-Nat.reducePow,e,hmod]
    refine aC0 c4 (by simp only [aAn,aA3,aB6,aB0,aA9,and_true]) (by simp only [push_cast,seval,-Nat.reducePow]) (by simp only [push_cast,seval,-Nat.reducePow]) ?_
    simp only [push_cast,seval,-Nat.reducePow,e]
    refine aC0 c5 (by simp only [aAn,aA3,aB6,aB0,aA9,and_true]) (by simp only [push_cast,seval,-Nat.reducePow]) (by simp only [push_cast,seval,-Nat.reducePow]) ?_
    simp only [push_cast,seval,-Nat.reducePow]
    refine aC0 c6 (by simp only [aAn,aA3,aB6,aB0,aA9,and_true]) (by simp only [push_cast,seval,-Nat.reducePow]) (by simp only [push_cast,seval,-Nat.reducePow]) ?_
    simp only [push_cast,seval,-Nat.reducePow]
    refine aAb kn (by simp only [push_cast,seval,-Nat.reducePow]) (by simp only [push_cast,seval,-Nat.reducePow]) ?_
    simp only [push_cast,seval,-Nat.reducePow,view]
   ·simp only [e,decide_false,Bool.not_false,if_true] at c4
    simp only [push_cast,seval,-Nat.reducePow,e,hmod]
    refine aC0 c4 (by simp only [aAn,aA3,aB6,aB0,aA9,and_true]) (by simp only [push_cast,seval,-Nat.reducePow]) (by simp only [push_cast,seval,-Nat.reducePow]) ?_
    simp only [push_cast,seval,-Nat.reducePow,e]
    refine aC0 c5 (by simp only [aAn,aA3,aB6,aB0,aA9,and_true]) (by simp only [push_cast,seval,-Nat.reducePow]) (by simp only [push_cast,seval,-Nat.reducePow]) ?_
    simp only [push_cast,seval,-Nat.reducePow]
    refine aC0 c6 (by simp only [aAn,aA3,aB6,aB0,aA9,and_true]) (by simp only [push_cast,seval,-Nat.reducePow]) (by simp only [push_cast,seval,-Nat.reducePow]) ?_
    simp only [push_cast,seval,-Nat.reducePow]
    refine aAb kn (by simp only [push_cast,seval,-Nat.reducePow]) (by simp only [push_cast,seval,-Nat.reducePow]) ?_
    simp only [push_cast,seval,-Nat.reducePow,view]
end Go.Ab
