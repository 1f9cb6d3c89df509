/- Several texts of one kind, merged. No condition. -/
import Derived.Test.YtcmnepgnkcoiiaaGreatDoorAbC1
import Derived.Test.YtcmnepgnkcoiiaaGreatDoorAbG11
import Derived.Test.YtcmnepgnkcoiiaaGreatDoorAbG12
import Derived.Test.YtcmnepgnkcoiiaaGreatDoorAbZ1
set_option linter.unusedSimpArgs false
set_option linter.unusedVariables false
namespace Go.Ab
variable {P:Program} {F T:Nat→Nat}
open Go.Lib
theorem t187 (hf:bC0 P F T) (C:TitC P F) (s:List UInt8) (hs:s.length≤100000):PTr P (F 187) [.str s] (.bool (aF0 false s)):=by
 refine ptrC [] hf (by simp) rfl ?_
 simp only [c187,push_cast,seval,-Nat.reducePow]
 refine aAc (fun m s1=>∃ i,i≤s.length∧m=s.length-i∧aF0 false s=aF0 (pbAt s i) (s.drop i)∧s1.env 0=.str s∧s1.env 3=.int .i64 i) s.length ⟨0,?_⟩ fun m s1 hJ=>?_
 ·simp only [push_cast,seval,-Nat.reducePow]
  exact ⟨rfl,rfl⟩
 ·obtain ⟨i,hi,rfl,hcl,j0,j3⟩:=hJ
  by_cases h:i<s.length
  ·have h':((i:Nat):Int)<((s.length:Nat):Int):=by omega
   rw [aVd s h] at hcl
   have hib:=C.ib [60,62,91,93,123,125,124,35,95] (s.getD i 0)
   have hhas:=bFi [60,62,91,93,123,125,124,35,95] (s.getD i 0)
   have hpb:pbAt s i=(decide (0<i)&&decide ((s.getD (i-1) 0).toNat=32)):=rfl
   unfold badB at hcl
   obtain ⟨c,hc⟩:∃ c,s.getD i 0=c:=⟨_,rfl⟩
   rw [hc] at hib hhas hcl
   by_cases b1:c.toNat<32
   ·have b1':((c.toNat:Nat):Int)<32:=by omega
    simp only [push_cast,seval,-Nat.reducePow,j0,j3,h',hc,b1',view]
    refine ⟨h,?_⟩
    rw [hcl]; simp [b1]
   ·have b1':¬ ((c.toNat:Nat):Int)<32:=by omega
    by_cases b2:c.toNat=127
    ·have b2':((c.toNat:Nat):Int)=127:=by omega
     simp only [push_cast,seval,-Nat.reducePow,j0,j3,h',hc,b1',b2',view]
     refine ⟨h,?_⟩
     rw [hcl]; simp [b2]
    ·have b2':¬ ((c.toNat:Nat):Int)=127:=by omega
     simp only [push_cast,seval,-Nat.reducePow,j0,j3,h',hc,b1',b2']
     refine ⟨h,?_⟩
     refine aAb hib (by simp only [push_cast,seval,-Nat.reducePow]) (by simp only [push_cast,seval,-Nat.reducePow]) ?_
     by_cases b3:0≤indexByte [60,62,91,93,123,125,124,35,95] c
     ·have b3b:=hhas.1 b3
      simp only [push_cast,seval,-Nat.reducePow,j0,j3,h',hc,b3,view]
      rw [hcl,b3b]; simp
     ·have b3b:[60,62,91,93,123,125,124,35,95].contains c=false:=by
       cases hb:[60,62,91,93,123,125,124,35,95].contains c with
       | true=>exact absurd (hhas.2 hb) b3
       | false=>rfl
      have d1:decide (c.toNat<32)=false:=decide_eq_false b1
      have d2:decide (c.toNat=127)=false:=decide_eq_false b2
      rw [b3b,d1,d2] at hcl
      by_cases b4:c.toNat=32
      ·have b4':((c.toNat:Nat):Int)=32:=by omega
       have d4:decide (c.toNat=32)=true:=decide_eq_true b4
       rw [d4] at hcl
       by_cases b5:0<i
       ·have b5':(0:Int)<((i:Nat):Int):=by omega
        have hi1:((i:Nat):Int)-1=((i-1:Nat):Int):=by omega
        obtain ⟨I,hI⟩:∃ I,I=i-1:=⟨_,rfl⟩
        rw [← hI] at hi1 hpb
        rw [decide_eq_true b5,Bool.true_and] at hpb
        by_cases b6:(s.getD I 0).toNat=32
        ·have b6':(((s.getD I 0).toNat:Nat):Int)=32:=by omega
         rw [decide_eq_true b6] at hpb
         rw [hpb] at hcl
         simp only [push_cast,seval,-Nat.reducePow,j0,j3,h',hc,b3,b4',b5',hi1,b6',view]
         refine ⟨by omega,by omega,?_⟩
         rw [hcl]; rfl
        ·have b6':¬ (((s.getD I 0).toNat:Nat):Int)=32:=by omega
         rw [decide_eq_false b6] at hpb
         rw [hpb] at hcl
         simp only [push_cast,seval,-Nat.reducePow,j0,j3,h',hc,b3,b4',b5',hi1,b6']
         refine ⟨by omega,by omega,by omega,s.length-(i+1),by omega,i+1,by omega,rfl,?_,by simp⟩
         rw [hcl]; rfl
       ·have b5':¬ (0:Int)<((i:Nat):Int):=by omega
        rw [decide_eq_false b5,Bool.false_and] at hpb
        rw [hpb] at hcl
        simp only [push_cast,seval,-Nat.reducePow,j0,j3,h',hc,b3,b4',b5']
        refine ⟨by omega,s.length-(i+1),by omega,i+1,by omega,rfl,?_,by simp⟩
        rw [hcl]; rfl
      ·have b4':¬ ((c.toNat:Nat):Int)=32:=by omega
       have d4:decide (c.toNat=32)=false:=decide_eq_false b4
       rw [d4] at hcl
       simp only [push_cast,seval,-Nat.reducePow,j0,j3,h',hc,b3,b4']
       refine ⟨by omega,s.length-(i+1),by omega,i+1,by omega,rfl,?_,by simp⟩
       rw [hcl]; rfl
  ·have h':¬ ((i:Nat):Int)<((s.length:Nat):Int):=by omega
   obtain rfl:i=s.length:=by omega
   rw [aWj] at hcl
   simp only [push_cast,seval,-Nat.reducePow,j0,j3,h',hcl,view]
theorem t189 (hf:aZc P F T) (s:List UInt8) (hs:s.length≤100000):PTr P (F 189) [.str s] (.str (lowL s)):=by
 refine ptrC [] hf (by simp) rfl ?_
 simp only [c189,push_cast,seval,-Nat.reducePow]
 refine aAc (fun m s1=>∃ i,i≤s.length∧m=s.length-i∧s1.env 3=.own 36 1 0 s.length∧s1.env 8=.own 36 1 0 s.length∧s1.env 9=.int .i64 s.length∧s1.env 10=.int .i64 i∧s1.L 36=some (.vec (T 3) 1 (aAm (lowL (s.take i)++s.drop i)))) s.length ⟨0,?_⟩ fun m s1 hJ=>?_
 ·simp only [push_cast,seval,-Nat.reducePow]
  exact ⟨rfl,rfl⟩
 ·obtain ⟨i,hi,rfl,j3,j8,j9,j10,jL⟩:=hJ
  by_cases h:i<s.length
  ·have h':((i:Nat):Int)<((s.length:Nat):Int):=by omega
   obtain ⟨u,c,v,rfl,hu⟩:∃ u c v,s=u++c::v∧u.length=i:=⟨s.take i,s[i],s.drop (i+1),by rw [← List.drop_eq_getElem_cons h,List.take_append_drop],by rw [List.length_take]; omega⟩
   subst hu
   have e1:(u++c::v).take u.length=u:=by simp
   have e2:(u++c::v).drop u.length=c::v:=by simp
   have e3:(u++c::v).take (u.length+1)=u++[c]:=by rw [List.take_append]; simp [List.take_of_length_le]
   have e4:(u++c::v).drop (u.length+1)=v:=by simp [List.drop_append]
   rw [e1,e2] at jL
   have hll:(lowL u).length=u.length:=by simp [lowL]
   have hbl:(lowL u++c::v).length=u.length+(v.length+1):=by simp [lowL]
   have hg:(aAm (lowL u++c::v)).getD u.length .junk=.int .u8 c.toNat:=by
    rw [← hll]; simp [aAm,List.getD]
   have hset:∀ x:UInt8,(aAm (lowL u++c::v)).set u.length (.int .u8 x.toNat)=aAm (lowL u++x::v):=fun x=>by
    have hl2:u.length=(aAm (lowL u)).length:=by simp [aAm,lowL]
    simp only [aAm,List.map_append,List.map_cons] at hl2 ⊢
    rw [hl2,List.set_append_right _ _ (Nat.le_refl _)]
    simp
   have hlow:=bCf c
   have hfin:∀ x:UInt8,x=lowB c→lowL u++x::v=lowL (u++[c])++v:=fun x hx=>by simp [lowL,hx]
   by_cases b1:65≤c.toNat∧c.toNat≤90
   ·have b1':(65:Int)≤((c.toNat:Nat):Int):=by omega
    have b2':((c.toNat:Nat):Int)≤90:=by omega
    rw [if_pos b1] at hlow
    have hs2:=hset (lowB c)
    have hadd:((c.toNat:Nat):Int)+32=(((lowB c).toNat:Nat):Int):=by omega
    simp only [push_cast,seval,-Nat.reducePow,j3,j8,j9,j10,jL,h',hg,b1',b2',hadd,hs2]
    have hrc:((V.int IntKind.u8 ((c.toNat:Nat):Int)).recell [V.int IntKind.u8 (((lowB c).toNat:Nat):Int)])=V.int .u8 (((lowB c).toNat:Nat):Int):=rfl
    rw [hrc,hs2]
    refine ⟨by rw [hbl]; omega,by omega,by rw [hbl]; omega,⟨by omega,by omega⟩,(u++c::v).length-(u.length+1),by omega,u.length+1,by omega,rfl,by simp,?_⟩
    rw [e3,e4]
    rw [← hfin _ rfl]
   ·have hlc:lowB c=c:=by unfold lowB; rw [if_neg b1]
    by_cases b2:65≤c.toNat
    ·have b1':(65:Int)≤((c.toNat:Nat):Int):=by omega
     have b2':¬ ((c.toNat:Nat):Int)≤90:=by omega
     simp only [push_cast,seval,-Nat.reducePow,j3,j8,j9,j10,jL,h',hg,b1',b2']
     refine ⟨by rw [hbl]; omega,⟨by omega,by omega⟩,(u++c::v).length-(u.length+1),by omega,u.length+1,by omega,rfl,by simp,?_⟩
     rw [e3,e4,← hfin c hlc.symm]
    ·have b1':¬ (65:Int)≤((c.toNat:Nat):Int):=by omega
     simp only [push_cast,seval,-Nat.reducePow,j3,j8,j9,j10,jL,h',hg,b1']
     refine ⟨by rw [hbl]; omega,⟨by omega,by omega⟩,(u++c::v).length-(u.length+1),by omega,u.length+1,by omega,rfl,by simp,?_⟩
     rw [e3,e4,← hfin c hlc.symm]
  ·have h':¬ ((i:Nat):Int)<((s.length:Nat):Int):=by omega
   obtain rfl:i=s.length:=by omega
   simp only [List.take_length,List.drop_length,List.append_nil] at jL
   have hbl:(aAm (lowL s)).length=s.length:=by simp [aAm,lowL]
   have htk:List.take s.length (aAm (lowL s))=aAm (lowL s):=List.take_of_length_le (by omega)
   simp only [push_cast,seval,-Nat.reducePow,j3,j8,j9,j10,jL,h',htk]
   exact ⟨by rw [← hbl]; simp [aAm],lowL s,rfl,rfl⟩
end Go.Ab
namespace Go.Ab
variable {P:Program} {F T:Nat→Nat}
open Go.Lib
def spaV:V:=.agg [.str [],.str [84,97,108,107],.str [85,115,101,114],.str [84,101,109,112,108,97,116,101],.str [67,97,116,101,103,111,114,121],.str [80,114,111,106,101,99,116]]
theorem t190 (hf:aXe P F T):PTr P (F 190) [] spaV:=by
 refine ptrC [] hf (by simp) rfl ?_
 simp only [c190,push_cast,seval,-Nat.reducePow,view]
 rfl
def aVk (s:List UInt8):V:=match colF s with
 | none=>.tup [.int .i64 0,.str [],.bool false]
 | some i=>if nsF (unbl (s.take i)) 5 1=0 then .tup [.int .i64 0,.str [],.bool false] else .tup [.int .i64 (nsF (unbl (s.take i)) 5 1),.str (s.drop (i+1)),.bool true]
theorem bB4 (s:List UInt8):(unbl s).length≤s.length:=by
 unfold unbl; split
 ·simp
 ·exact Nat.le_refl _
theorem aZ0 (p:List UInt8) (i:Nat) (h:i<6):nsF p (6-i) i=if lowL p=lowL (aMa i) then i else nsF p (6-(i+1)) (i+1):=by
 obtain ⟨k,hk⟩:∃ k,6-i=k+1:=⟨5-i,by omega⟩
 have:6-(i+1)=k:=by omega
 rw [hk,this,nsF]
theorem bGw (i:Nat) (h:i<6):pack false (((([.str [],.str [84,97,108,107],.str [85,115,101,114],.str [84,101,109,112,108,97,116,101],.str [67,97,116,101,103,111,114,121],.str [80,114,111,106,101,99,116]]:List V).drop (i*1)).take 1))=.str (aMa i):=by
 match i,h with
 | 0,_=>rfl
 | 1,_=>rfl
 | 2,_=>rfl
 | 3,_=>rfl
 | 4,_=>rfl
 | 5,_=>rfl
theorem bGb (i:Nat) (h:i<6):(aMa i).length≤100000:=by
 match i,h with
 | 0,_=>decide
 | 1,_=>decide
 | 2,_=>decide
 | 3,_=>decide
 | 4,_=>decide
 | 5,_=>decide
theorem t188 (hf:bAi P F T) (C:TitC P F) (h189:aZc P F T) (h190:aXe P F T) (s:List UInt8) (hs:s.length≤100000):PTr P (F 188) [.str s] (aVk s):=by
 have him:(aVk s).imm=true:=by
  unfold aVk; split
  ·rfl
  ·split <;> rfl
 refine ptrC [] hf (by simp) him ?_
 have hcut:=C.cut s hs
 unfold aVk
 cases hc:colF s with
 | none =>
   rw [hc] at hcut
   simp only [c188,push_cast,seval,-Nat.reducePow]
   refine aAb hcut (by simp only [push_cast,seval,-Nat.reducePow]) (by simp only [push_cast,seval,-Nat.reducePow]) ?_
   simp only [push_cast,seval,-Nat.reducePow,view]
 | some k =>
   rw [hc] at hcut
   obtain ⟨p,hp⟩:∃ p,s.take k=p:=⟨_,rfl⟩
   have hpl:p.length≤100000:=by rw [← hp,List.length_take]; omega
   obtain ⟨q,hq⟩:∃ q,unbl p=q:=⟨_,rfl⟩
   have hql:q.length≤100000:=by rw [← hq]; have:=bB4 p; omega
   have hts:=C.tsuf p hpl
   rw [hq] at hts
   simp only [hp,hq] at hcut ⊢
   simp only [c188,push_cast,seval,-Nat.reducePow]
   refine aAb hcut (by simp only [push_cast,seval,-Nat.reducePow]) (by simp only [push_cast,seval,-Nat.reducePow]) ?_
   simp only [push_cast,seval,-Nat.reducePow]
   refine aAb hts (by simp only [push_cast,seval,-Nat.reducePow]) (by simp only [push_cast,seval,-Nat.reducePow]) ?_
   refine aAb (t189 h189 q hql) (by simp only [push_cast,seval,-Nat.reducePow]) (by simp only [push_cast,seval,-Nat.reducePow]) ?_
   refine aAb (t190 h190) (by simp only [push_cast,seval,-Nat.reducePow]) rfl ?_
   refine aAc (fun m s1=>∃ i,i≤6∧m=6-i∧(i=0∨nsF q 5 1=nsF q (6-i) i)∧s1.env 6=.str (s.drop (k+1))∧s1.env 8=.str (lowL q)∧s1.env 22=spaV∧s1.env 23=.int .i64 i) 6 ⟨0,?_⟩ fun m s1 hJ=>?_
   ·simp only [push_cast,seval,-Nat.reducePow,spaV]
   ·obtain ⟨i,hi,rfl,hn,j6,j8,j22,j23⟩:=hJ
    by_cases h:i<6
    ·have h':((i:Nat):Int)<6:=by omega
     have hpk:=bGw i h
     have hnx:=aZ0 q i h
     by_cases h0:i=0
     ·have h0':((i:Nat):Int)=0:=by omega
      simp only [push_cast,seval,-Nat.reducePow,spaV,j6,j8,j22,j23,h',hpk,h0']
      subst h0
      exact ⟨5,by omega,1,by omega,rfl,Or.inr rfl,rfl⟩
     ·have h0':¬ ((i:Nat):Int)=0:=by omega
      have hn2:nsF q 5 1=nsF q (6-i) i:=by rcases hn with e | e; exact absurd e h0; exact e
      rw [hnx] at hn2
      simp only [push_cast,seval,-Nat.reducePow,spaV,j6,j8,j22,j23,h',hpk,h0']
      refine aAb (t189 h189 (aMa i) (bGb i h)) (by simp only [push_cast,seval,-Nat.reducePow]) (by simp only [push_cast,seval,-Nat.reducePow]) ?_
      by_cases e:lowL q=lowL (aMa i)
      ·rw [if_pos e] at hn2
       have hn3:¬ nsF q 5 1=0:=by omega
       rw [← e,if_neg hn3,hn2]
       simp only [push_cast,seval,-Nat.reducePow,spaV,j6,j8,j22,j23,view]
      ·rw [if_neg e] at hn2
       simp only [push_cast,seval,-Nat.reducePow,spaV,j6,j8,j22,j23,e]
       exact ⟨by omega,6-(i+1),by omega,i+1,by omega,rfl,Or.inr hn2,by simp⟩
    ·have h':¬ ((i:Nat):Int)<6:=by omega
     obtain rfl:i=6:=by omega
     have hn2:nsF q 5 1=0:=by rcases hn with e | e; omega; exact e
     simp only [push_cast,seval,-Nat.reducePow,j6,j8,j22,j23,h',hn2,view]
end Go.Ab
namespace Go.Ab
variable {P:Program} {F T:Nat→Nat}
open Go.Lib
def ttV (sp:Int) (s:List UInt8):V:=.agg [.int .i64 sp,.str s]
theorem aSd {l:List (List UInt8)} {i:Nat} (h:i<l.length):(l.map V.str).getD i .junk=.str (l.getD i []):=by simp [List.getD,h]
theorem aH7 (l:List (List UInt8)):V.imms (l.map V.str)=true:=aFs _ _ fun t=>rfl
theorem bB9 {α:Type} (f:α→Bool) (d:α) {l:List α} {i:Nat} (h:i<l.length):(l.drop i).all f=(f (l.getD i d)&&(l.drop (i+1)).all f):=by
 have e1:l.getD i d=l[i]:=by simp [List.getD,h]
 rw [List.drop_eq_getElem_cons h,e1]; rfl
theorem aN0:∀ s:List UInt8,(aA4 s).length≤s.length+1
 | []=>by simp [aA4]
 | x::r=>by
   have ih:=aN0 r
   simp only [aA4]
   split
   ·simp; omega
   ·simp; omega
theorem bBk (s:List UInt8):∃ x y,aVk s=.tup [x,.str y,.bool (!decide (aXf s=0))]∧x=.int .i64 (aXf s):=by
 unfold aVk aXf
 cases colF s with
 | none=>exact ⟨_,_,rfl,rfl⟩
 | some i =>
   simp only
   by_cases h:nsF (unbl (s.take i)) 5 1=0
   ·have e:decide (nsF (unbl (s.take i)) 5 1=0)=true:=decide_eq_true h
    rw [if_pos h,e]; refine ⟨_,_,rfl,?_⟩; rw [h]; rfl
   ·have e:decide (nsF (unbl (s.take i)) 5 1=0)=false:=decide_eq_false h
    rw [if_neg h,e]; exact ⟨_,_,rfl,rfl⟩
theorem t185 (hf:bD2 P F T) (C:TitC P F) (h187:bC0 P F T) (h188:bAi P F T) (h189:aZc P F T) (h190:aXe P F T) (sp:Int) (s:List UInt8) (hs:s.length≤100000):PTr P (F 185) [ttV sp s] (.bool (aE1 sp s)):=by
 refine ptrC [] hf (by simp) rfl ?_
 by_cases a1:sp<0
 ·have d1:¬ 0≤sp:=by omega
  simp only [c185,ttV,push_cast,seval,-Nat.reducePow,a1,view,aE1,d1,Bool.false_and]
 by_cases a2:6≤sp
 ·have d2:¬ sp<6:=by omega
  simp only [c185,ttV,push_cast,seval,-Nat.reducePow,a1,a2,view,aE1,d2,Bool.false_and,Bool.and_false]
 by_cases a3:s.length<1
 ·have d3:¬ 1≤s.length:=by omega
  have a3':((s.length:Nat):Int)<1:=by omega
  simp only [c185,ttV,push_cast,seval,-Nat.reducePow,a1,a2,a3',view,aE1,d3,Bool.false_and,Bool.and_false]
 have a3':¬ ((s.length:Nat):Int)<1:=by omega
 by_cases a4:100<s.length
 ·have d4:¬ s.length≤100:=by omega
  have a4':(100:Int)<((s.length:Nat):Int):=by omega
  simp only [c185,ttV,push_cast,seval,-Nat.reducePow,a1,a2,a3',a4',view,aE1,d4,Bool.false_and,Bool.and_false]
 have a4':¬ (100:Int)<((s.length:Nat):Int):=by omega
 have e0:aE1 sp s=(aF0 false s&&(aA4 s).all aOu&&!aQh s&&(!decide (sp=0)||decide (aXf s=0))):=by
  have d1:0≤sp:=by omega
  have d2:sp<6:=by omega
  have d3:1≤s.length:=by omega
  have d4:s.length≤100:=by omega
  simp [aE1,d1,d2,d3,d4]
 rw [e0]
 simp only [c185,ttV,push_cast,seval,-Nat.reducePow,a1,a2,a3',a4']
 refine aAb (t187 h187 C s hs) (by simp only [push_cast,seval,-Nat.reducePow]) (by simp only [push_cast,seval,-Nat.reducePow]) ?_
 cases hcl:aF0 false s with
 | false=>simp only [push_cast,seval,-Nat.reducePow,view,Bool.false_and]
 | true =>
   simp only [push_cast,seval,-Nat.reducePow]
   have him:=aH7 (aA4 s)
   have hln:((aA4 s).map V.str).length=(aA4 s).length:=List.length_map ..
   refine aAb (C.split s hs) (by simp only [push_cast,seval,-Nat.reducePow]) (by simp only [push_cast,seval,-Nat.reducePow,him]) ?_
   simp only [push_cast,seval,-Nat.reducePow,hln]
   refine aAc (fun m s1=>∃ i,i≤(aA4 s).length∧m=(aA4 s).length-i∧(aA4 s).all aOu=((aA4 s).drop i).all aOu∧s1.env 1=.ptr 1 0∧s1.env 3=.str s∧s1.env 35=.lst 1 ((aA4 s).map V.str)∧s1.env 36=.int .i64 (aA4 s).length∧s1.env 37=.int .i64 i∧s1.L 1=some (.box (T 17) [.int .i64 sp,.str s])) (aA4 s).length ⟨0,?_⟩ fun m s1 hJ=>?_
   ·simp only [push_cast,seval,-Nat.reducePow]
    rfl
   ·obtain ⟨i,hi,rfl,hn,j1,j3,j35,j36,j37,jL⟩:=hJ
    by_cases h:i<(aA4 s).length
    ·have h':((i:Nat):Int)<(((aA4 s).length:Nat):Int):=by omega
     have hg:=aSd h
     have hpn:=aN0 s
     rw [bB9 aOu [] h] at hn
     obtain ⟨p,hp⟩:∃ p,(aA4 s).getD i []=p:=⟨_,rfl⟩
     have hpl:p.length≤s.length:=by
      have:p∈aA4 s:=by rw [← hp]; simp [List.getD,h]
      exact aNx p this
     rw [hp] at hg hn
     by_cases b1:p=[]
     ·have hgo:aOu p=false:=by rw [b1]; rfl
      rw [hgo,Bool.false_and] at hn
      simp only [push_cast,seval,-Nat.reducePow,j1,j3,j35,j36,j37,jL,h',hln,hg,b1,view,hn,Bool.false_and]
      exact h
     ·have b1p:0<p.length:=List.length_pos_iff.2 b1
      obtain ⟨c,hc⟩:∃ c,p.getD 0 0=c:=⟨_,rfl⟩
      obtain ⟨d,hd⟩:∃ d,p.getD (p.length-1) 0=d:=⟨_,rfl⟩
      have hd2:(((p.length:Nat):Int)-1).toNat=p.length-1:=by omega
      have hgo:aOu p=(!decide (c=32)&&!decide (d=32)):=by simp only [aOu,b1,hc,hd,decide_false,Bool.not_false,Bool.true_and]
      by_cases b2:c.toNat=32
      ·have b2':((c.toNat:Nat):Int)=32:=by omega
       rw [decide_eq_true ((eq32 c).2 b2),Bool.not_true,Bool.false_and] at hgo
       rw [hgo,Bool.false_and] at hn
       simp only [push_cast,seval,-Nat.reducePow,j1,j3,j35,j36,j37,jL,h',hln,hg,b1,hc,b2',view,hn,Bool.false_and]
       exact ⟨h,b1p⟩
      ·have b2':¬ ((c.toNat:Nat):Int)=32:=by omega
       rw [decide_eq_false (fun e=>b2 ((eq32 c).1 e)),Bool.not_false,Bool.true_and] at hgo
       by_cases b3:d.toNat=32
       ·have b3':((d.toNat:Nat):Int)=32:=by omega
        rw [decide_eq_true ((eq32 d).2 b3),Bool.not_true] at hgo
        rw [hgo,Bool.false_and] at hn
        simp only [push_cast,seval,-Nat.reducePow,j1,j3,j35,j36,j37,jL,h',hln,hg,b1,hc,b2',hd2,hd,b3',view,hn,Bool.false_and]
        exact ⟨h,b1p,⟨by omega,by omega⟩,by omega,by omega⟩
       ·have b3':¬ ((d.toNat:Nat):Int)=32:=by omega
        rw [decide_eq_false (fun e=>b3 ((eq32 d).1 e)),Bool.not_false] at hgo
        rw [hgo,Bool.true_and] at hn
        simp only [push_cast,seval,-Nat.reducePow,j1,j3,j35,j36,j37,jL,h',hln,hg,b1,hc,b2',hd2,hd,b3']
        exact ⟨h,b1p,⟨by omega,by omega⟩,by omega,by omega,⟨by omega,by omega⟩,(aA4 s).length-(i+1),by omega,i+1,by omega,rfl,hn,by simp⟩
    ·have h':¬ ((i:Nat):Int)<(((aA4 s).length:Nat):Int):=by omega
     obtain rfl:i=(aA4 s).length:=by omega
     simp only [List.drop_length,List.all_nil] at hn
     rw [hn]
     have a3p:0<s.length:=by omega
     obtain ⟨c,hc⟩:∃ c,s.getD 0 0=c:=⟨_,rfl⟩
     have hhd:aQh s=(decide (c.toNat=58)||(decide (97≤c.toNat)&&decide (c.toNat≤122))):=by rw [aQh,hc]
     by_cases b1:c.toNat=58
     ·have b1':((c.toNat:Nat):Int)=58:=by omega
      have hh:aQh s=true:=by rw [hhd,decide_eq_true b1]; rfl
      simp only [push_cast,seval,-Nat.reducePow,j1,j3,j35,j36,j37,jL,h',hc,b1',hh,view,Bool.not_true,Bool.and_false,Bool.false_and]
      exact a3p
     ·have b1':¬ ((c.toNat:Nat):Int)=58:=by omega
      by_cases b2:97≤c.toNat∧c.toNat≤122
      ·have b2':(97:Int)≤((c.toNat:Nat):Int):=by omega
       have b3':((c.toNat:Nat):Int)≤122:=by omega
       have hh:aQh s=true:=by rw [hhd,decide_eq_true b2.1,decide_eq_true b2.2,Bool.and_true,Bool.or_true]
       simp only [push_cast,seval,-Nat.reducePow,j1,j3,j35,j36,j37,jL,h',hc,b1',b2',b3',hh,view,Bool.not_true,Bool.and_false,Bool.false_and]
       exact ⟨a3p,a3p,a3p⟩
      ·have hh:aQh s=false:=by
        rw [hhd,decide_eq_false b1,Bool.false_or]
        by_cases e:97≤c.toNat
        ·rw [decide_eq_false (fun e2=>b2 ⟨e,e2⟩),Bool.and_false]
        ·rw [decide_eq_false e,Bool.false_and]
       rw [hh]
       have hpre:=t188 h188 C h189 h190 s hs
       obtain ⟨x,y,hpv,rfl⟩:=bBk s
       rw [hpv] at hpre
       by_cases e:97≤c.toNat
       ·have b2':(97:Int)≤((c.toNat:Nat):Int):=by omega
        have b3':¬ ((c.toNat:Nat):Int)≤122:=by omega
        simp only [push_cast,seval,-Nat.reducePow,j1,j3,j35,j36,j37,jL,h',hc,b1',b2',b3']
        refine ⟨a3p,a3p,a3p,?_⟩
        refine aAb hpre (by simp only [push_cast,seval,-Nat.reducePow]) (by simp only [push_cast,seval,-Nat.reducePow]) ?_
        by_cases e5:sp=0
        ·simp only [push_cast,seval,-Nat.reducePow,j1,j3,j35,j36,j37,jL,e5,view,Bool.not_true,Bool.not_false,Bool.true_or,Bool.false_or,Bool.not_not]
        ·simp only [push_cast,seval,-Nat.reducePow,j1,j3,j35,j36,j37,jL,e5,view,Bool.not_true,Bool.not_false,Bool.true_or,Bool.false_or,Bool.not_not]
       ·have b2':¬ (97:Int)≤((c.toNat:Nat):Int):=by omega
        simp only [push_cast,seval,-Nat.reducePow,j1,j3,j35,j36,j37,jL,h',hc,b1',b2']
        refine ⟨a3p,a3p,?_⟩
        refine aAb hpre (by simp only [push_cast,seval,-Nat.reducePow]) (by simp only [push_cast,seval,-Nat.reducePow]) ?_
        by_cases e5:sp=0
        ·simp only [push_cast,seval,-Nat.reducePow,j1,j3,j35,j36,j37,jL,e5,view,Bool.not_true,Bool.not_false,Bool.true_or,Bool.false_or,Bool.not_not]
        ·simp only [push_cast,seval,-Nat.reducePow,j1,j3,j35,j36,j37,jL,e5,view,Bool.not_true,Bool.not_false,Bool.true_or,Bool.false_or,Bool.not_not]
end Go.Ab
namespace Go.Ab
variable {P:Program} {F T:Nat→Nat}
open Go.Lib
def OwnL (ty sz nx nx':Nat) (es:List V) (r:V) (L':Heap):Prop:=∃ id,nx≤id∧id<nx'∧r=.own id sz 0 es.length∧L' id=some (.vec ty sz es)
theorem aGr (sp:Int) (l:List (List UInt8)):(ancV sp l).length=l.length:=List.length_map ..
theorem aM9 (sp:Int) (s:List UInt8):∀ i,(anc sp s i).length≤i
 | 0=>Nat.le_refl _
 | i+1=>by
   have ih:=aM9 sp s i
   rw [aR0,List.length_append]
   split <;> simp <;> omega
theorem t186 (hf:bAj P F T) {sp:Int} {s:List UInt8} (h185:PTr P (F 185) [ttV sp s] (.bool true)) (hs:s.length≤100000) (L:Heap) (nx:Nat) :
 ECall P (F 186) [ttV sp s] L nx fun r L' nx'=>nx≤nx'∧OwnL (T 17) 2 nx nx' (ancV sp (anc sp s s.length)) r L'∧∀ b,b<nx→L' b=L b:=by
 refine aAy [] hf (by simp) ?_
 simp only [c186,push_cast,seval,-Nat.reducePow,ttV] at h185 ⊢
 refine aAb h185 (by simp only [push_cast,seval,-Nat.reducePow]) (by simp only [push_cast,seval,-Nat.reducePow]) ?_
 simp only [push_cast,seval,-Nat.reducePow]
 refine aAc (fun m s1=>∃ i id,i≤s.length∧m=s.length-i∧s1.env 1=.ptr (nx+1) 0∧s1.L (nx+1)=some (.box (T 17) [.int .i64 sp,.str s])∧s1.env 4=.int .i64 i∧nx+31≤s1.nx∧nx+2≤id∧id<s1.nx∧s1.env 3=.own id 2 0 (anc sp s i).length∧s1.L id=some (.vec (T 17) 2 (ancV sp (anc sp s i)))∧∀ b,b<nx→s1.L b=L b) s.length ⟨0,nx+93,?_⟩ fun m s1 hJ=>?_
 ·simp only [push_cast,seval,-Nat.reducePow]
  refine ⟨rfl,by omega,by omega,by omega,rfl,rfl,fun b hb=>?_⟩
  rw [aAg _ _ _ _ (by omega),aAg _ _ _ _ (by omega)]
 ·obtain ⟨i,id,hi,rfl,j1,jB,j4,jn,jd,jd2,j3,jO,jL⟩:=hJ
  have hne:nx+1≠id:=by omega
  by_cases h:i<s.length
  ·have h':((i:Nat):Int)<((s.length:Nat):Int):=by omega
   have ham:=aM9 sp s i
   have has:=aR0 sp s i
   obtain ⟨c,hc⟩:∃ c,s.getD i 0=c:=⟨_,rfl⟩
   rw [hc] at has
   by_cases b:c.toNat=47
   ·have b':((c.toNat:Nat):Int)=47:=by omega
    have hlen:(ancV sp (anc sp s i)).length=(anc sp s i).length:=aGr _ _
    have htk:List.take (anc sp s i).length (ancV sp (anc sp s i))=ancV sp (anc sp s i):=List.take_of_length_le (by omega)
    have b3:c=47:=by rw [show c=UInt8.ofNat c.toNat by simp,b]; rfl
    rw [if_pos b3] at has
    simp only [push_cast,seval,-Nat.reducePow,j1,jB,j4,j3,jO,h',hc,b',hne,hlen,htk]
    have hap:ancV sp (anc sp s i)++[V.agg [V.int IntKind.i64 sp,V.str (List.take i s)]]=ancV sp (anc sp s (i+1)):=by rw [has]; simp [ancV]
    have hl2:(anc sp s (i+1)).length=(anc sp s i).length+1:=by rw [has]; simp
    rw [hap]
    refine ⟨h,hi,by omega,⟨by omega,by omega⟩,s.length-(i+1),by omega,i+1,s1.nx+91,by omega,rfl,?_,by simp,by omega,by omega,by omega,by rw [hl2],aAf _ _ _,fun b hb=>?_⟩
    ·rw [aAg _ _ _ _ (by omega),aAg _ _ _ _ (by omega)]; exact jB
    ·rw [aAg _ _ _ _ (by omega),aAg _ _ _ _ (by omega)]; exact jL b hb
   ·have b':¬ ((c.toNat:Nat):Int)=47:=by omega
    have b3:¬ c=47:=fun e=>b (by rw [e]; rfl)
    rw [if_neg b3,List.append_nil] at has
    simp only [push_cast,seval,-Nat.reducePow,j1,jB,j4,j3,jO,h',hc,b',hne]
    refine ⟨h,⟨by omega,by omega⟩,s.length-(i+1),by omega,i+1,id,by omega,rfl,by simp,by omega,by omega,by omega,by rw [has],by rw [has]; exact jO,jL⟩
  ·have h':¬ ((i:Nat):Int)<((s.length:Nat):Int):=by omega
   obtain rfl:i=s.length:=by omega
   simp only [push_cast,seval,-Nat.reducePow,j1,jB,j4,j3,jO,h']
   exact ⟨by omega,by omega,⟨id,by omega,by omega,by rw [aGr],jO⟩,jL⟩
end Go.Ab
namespace Go.Ab
variable {P:Program} {F T:Nat→Nat}
open Go.Lib
theorem aNg (sp:Int) {l:List (List UInt8)} {i:Nat} (h:i<l.length):(ancV sp l).getD i .junk=.agg [.int .i64 sp,.str (l.getD i [])]:=by simp [ancV,List.getD,h]
theorem aR4 (sp:Int) (l:List (List UInt8)) (i:Nat) (x:List UInt8):(ancV sp l).set i (.agg [.int .i64 sp,.str x])=ancV sp (l.set i x):=by simp [ancV,List.map_set]
theorem aSc (l:List (List UInt8)) (i k:Nat) (x:List UInt8):(l.set i x).getD k []=if i=k∧k<l.length then x else l.getD k []:=by
 simp only [List.getD,List.getElem?_set]
 by_cases h:i=k
 ·subst h
  by_cases h2:i<l.length
  ·simp [h2]
  ·simp [h2]
 ·simp [h]
theorem aMi {l l':List (List UInt8)} (h:l.length=l'.length) (h2:∀ k,k<l.length→l.getD k []=l'.getD k []):l=l':=by
 refine List.ext_getElem h fun k h3 h4=>?_
 have:=h2 k h3
 simpa [List.getD,h3,h4] using this
theorem t229 (hf:bCt P F T) (sp:Int) (l:List (List UInt8)) (hl:l.length≤100000) (L:Heap) (nx id:Nat) (hid:id<nx) (hL:L id=some (.vec (T 17) 2 (ancV sp l))) :
 ECall P (F 229) [.own id 2 0 l.length] L nx fun _ L' nx'=>nx≤nx'∧L' id=some (.vec (T 17) 2 (ancV sp l.reverse))∧∀ b,b<nx→b≠id→L' b=L b:=by
 refine aAy [] hf (by simp) ?_
 simp only [c229,push_cast,seval,-Nat.reducePow]
 refine ⟨by omega,?_⟩
 refine aAc (fun m s1=>∃ i q,2*i≤l.length+1∧m=l.length-i∧s1.env 0=.own id 2 0 l.length∧s1.env 2=.int .i64 i∧s1.env 3=.int .i64 ((l.length:Int)-1-i)∧nx≤s1.nx∧q.length=l.length∧s1.L id=some (.vec (T 17) 2 (ancV sp q))∧(∀ k,k<l.length→q.getD k []=if k<i∨l.length-i≤k then l.getD (l.length-1-k) [] else l.getD k [])∧∀ b,b<nx→b≠id→s1.L b=L b) l.length ⟨0,l,?_⟩ fun m s1 hJ=>?_
 ·simp only [push_cast,seval,-Nat.reducePow]
  refine ⟨rfl,by simp,by omega,hL,fun k hk=>?_,fun b _ _=>trivial⟩
  rw [if_neg (by omega)]
 ·obtain ⟨i,q,hi,rfl,j0,j2,j3,jn,hq,jO,hk,jL⟩:=hJ
  have hal:(ancV sp q).length=l.length:=by rw [aGr,hq]
  by_cases h:2*i+1<l.length
  ·have h':((i:Nat):Int)<(l.length:Int)-1-i:=by omega
   obtain ⟨j,hj⟩:∃ j,j=l.length-1-i:=⟨_,rfl⟩
   have hj':(l.length:Int)-1-i=((j:Nat):Int):=by omega
   rw [hj'] at j3 h'
   have ga:=aNg sp (l:=q) (i:=i) (by omega)
   have gb:=aNg sp (l:=q) (i:=j) (by omega)
   simp only [push_cast,seval,-Nat.reducePow,j0,j2,j3,jO,h',hal,ga,gb]
   rw [aR4]
   have gc:=aNg sp (l:=q.set i (q.getD j [])) (i:=j) (by rw [List.length_set]; omega)
   rw [gc]
   have hrc:∀ x y:List UInt8,((V.agg [V.int IntKind.i64 sp,V.str x]).recell (V.int IntKind.i64 sp::V.str y::List.drop 2 (V.agg [V.int IntKind.i64 sp,V.str x]).cells))=V.agg [V.int IntKind.i64 sp,V.str y]:=fun _ _=>rfl
   rw [hrc,aR4]
   refine ⟨by omega,by omega,by omega,by omega,by omega,by omega,by omega,by rw [aGr,List.length_set]; omega,⟨by omega,by omega⟩,⟨by omega,by omega⟩,l.length-(i+1),by omega,i+1,(q.set i (q.getD j [])).set j (q.getD i []),by omega,rfl,by simp,?_,by omega,by simp [hq],rfl,fun k hkn=>?_,fun b hb hbi=>?_⟩
   ·congr 1; omega
   ·rw [aSc,aSc,List.length_set,hq]
    have ki:=hk i (by omega)
    have kj:=hk j (by omega)
    have kk:=hk k hkn
    rw [if_neg (by omega)] at ki kj
    by_cases e1:j=k
    ·subst e1
     rw [if_pos ⟨rfl,hkn⟩,if_pos (by omega),ki]
     congr 1; omega
    ·by_cases e2:i=k
     ·subst e2
      rw [if_neg (by omega),if_pos ⟨rfl,hkn⟩,if_pos (by omega),kj]
      congr 1
     ·rw [if_neg (by omega),if_neg (by omega),kk]
      by_cases e3:k<i∨l.length-i≤k
      ·rw [if_pos e3,if_pos (by omega)]
      ·rw [if_neg e3,if_neg (by omega)]
   ·rw [aAg _ _ _ _ hbi,aAg _ _ _ _ hbi]; exact jL b hb hbi
  ·have h':¬ ((i:Nat):Int)<(l.length:Int)-1-i:=by omega
   simp only [push_cast,seval,-Nat.reducePow,j0,j2,j3,jO,h',hal]
   have hqr:q=l.reverse:=by
    refine aMi (by rw [List.length_reverse,hq]) fun k hkn=>?_
    rw [hk k (by omega)]
    have er:l.reverse.getD k []=l.getD (l.length-1-k) []:=by
     simp only [List.getD]
     rw [List.getElem?_reverse (by omega)]
    rw [er]
    by_cases e3:k<i∨l.length-i≤k
    ·rw [if_pos e3]
    ·rw [if_neg e3]
     congr 1; omega
   rw [hqr]
   exact ⟨by omega,by omega,rfl,jL⟩
end Go.Ab
namespace Go.Ab
variable {P:Program} {F T:Nat→Nat}
open Go.Lib
theorem aPz (l:List Scp):V.imms (scV l)=true:=aFs _ _ fun q=>rfl
theorem aQb (l:List Scp):(scV l).length=l.length:=List.length_map ..
theorem bAd (l:List Scp) (x:Scp):scV l++[.agg [.int .i64 x.k,.int .i64 x.sp,.str x.n]]=scV (l++[x]):=by simp [scV,Scp.v]
def pgS (sp:Int) (q:List UInt8):Scp:=⟨3,sp,q⟩
theorem t181 (hf:bE0 P F T) (h186:bAj P F T) (h229:bCt P F T) {sp:Int} {s:List UInt8} (h185:PTr P (F 185) [ttV sp s] (.bool true)) (hs:s.length≤90000) :
 PTr P (F 181) [ttV sp s] (.lst 3 (scV (levF sp s))):=by
 refine ptrC [] hf (by simp) (by simp [V.imm,aPz]) ?_
 obtain ⟨A,hA⟩:∃ A,anc sp s s.length=A:=⟨_,rfl⟩
 have hAl:A.length≤90000:=by have:=aM9 sp s s.length; rw [hA] at this; omega
 have hlev:levF sp s=pgS sp s::(A.reverse.map (pgS sp))++[⟨2,sp,[]⟩,⟨1,0,[]⟩]:=by rw [levF,hA]; rfl
 simp only [c181,push_cast,seval,-Nat.reducePow,ttV]
 refine aAa (t186 h186 h185 (by omega) _ _) fun r L1 n1 hp=>?_
 rw [hA] at hp
 obtain ⟨hn,⟨id,hi1,hi2,rfl,hI⟩,hL⟩:=hp
 rw [aGr] at *
 refine aAa (t229 h229 sp A (by omega) _ _ id (by omega) hI) fun r L2 n2 hp=>?_
 obtain ⟨hn2,hI2,hL2⟩:=hp
 simp only [push_cast,seval,-Nat.reducePow]
 have b1:L2 1=some (.box (T 17) [.int .i64 sp,.str s]):=by
  rw [hL2 1 (by omega) (by omega),hL 1 (by omega)]; rfl
 have b43:L2 43=some (.vec (T 18) 3 (scV [pgS sp s])):=by
  rw [hL2 43 (by omega) (by omega),hL 43 (by omega)]; rfl
 have hRl:A.reverse.length=A.length:=List.length_reverse
 generalize A.reverse=R at *
 refine aAc (fun m s1=>∃ i id3,i≤A.length∧m=A.length-i∧s1.env 1=.ptr 1 0∧s1.L 1=some (.box (T 17) [.int .i64 sp,.str s])∧s1.env 14=.own id 2 0 A.length∧s1.L id=some (.vec (T 17) 2 (ancV sp R))∧s1.env 15=.int .i64 A.length∧s1.env 16=.int .i64 i∧s1.env 3=.own id3 3 0 (i+1)∧s1.L id3=some (.vec (T 18) 3 (scV (pgS sp s::(R.take i).map (pgS sp))))∧id3<s1.nx∧id<s1.nx∧id3≠id∧id3≠1∧id≠1∧2≤s1.nx) A.length ⟨0,43,?_⟩ fun m s1 hJ=>?_
 ·simp only [push_cast,seval,-Nat.reducePow]
  exact ⟨rfl,b1,hI2,b43,by omega,by omega,by omega,by omega⟩
 ·obtain ⟨i,id3,hi,rfl,j1,jB,j14,jI,j15,j16,j3,jO,k1,k2,k3,k4,k5,k6⟩:=hJ
  have hsl:(scV (pgS sp s::(R.take i).map (pgS sp))).length=i+1:=by rw [aQb]; simp; omega
  have htk:List.take (i+1) (scV (pgS sp s::(R.take i).map (pgS sp)))=scV (pgS sp s::(R.take i).map (pgS sp)):=List.take_of_length_le (by omega)
  have hal:(ancV sp R).length=A.length:=by rw [aGr,hRl]
  by_cases h:i<A.length
  ·have h':((i:Nat):Int)<((A.length:Nat):Int):=by omega
   have hg:=aNg sp (l:=R) (i:=i) (by omega)
   have q1:id3≠s1.nx+40:=by omega
   simp only [push_cast,seval,-Nat.reducePow,j1,jB,j14,jI,j15,j16,j3,jO,h',hsl,htk,hal,hg,q1]
   have hs3:=bAd (pgS sp s::(R.take i).map (pgS sp)) (pgS sp (R.getD i []))
   have hs4:pgS sp s::(R.take i).map (pgS sp)++[pgS sp (R.getD i [])]=pgS sp s::(R.take (i+1)).map (pgS sp):=by
    have hiR:i<R.length:=by omega
    have er:R.getD i []=R[i]:=by simp [List.getD,hiR]
    rw [er,List.cons_append,← List.take_concat_get (h:=hiR),List.concat_eq_append,List.map_append]
    rfl
   rw [hs4] at hs3
   simp only [pgS] at hs3 ⊢
   rw [hs3]
   refine ⟨by omega,by omega,by omega,⟨by omega,by omega⟩,A.length-(i+1),by omega,i+1,s1.nx+92,by omega,rfl,?_,?_,by simp,rfl,aAf _ _ _,by omega,by omega,by omega,by omega,by omega⟩
   ·repeat rw [aAg _ _ _ _ (by omega)]
    exact jB
   ·repeat rw [aAg _ _ _ _ (by omega)]
    exact jI
  ·have h':¬ ((i:Nat):Int)<((A.length:Nat):Int):=by omega
   obtain rfl:i=A.length:=by omega
   have hRt:R.take A.length=R:=List.take_of_length_le (by omega)
   rw [hRt] at jO hsl htk
   simp only [push_cast,seval,-Nat.reducePow,j1,jB,j14,jI,j15,j16,j3,jO,h',hsl,htk,hal]
   have hx:scV (pgS sp s::R.map (pgS sp))++[V.agg [V.int IntKind.i64 2,V.int IntKind.i64 sp,V.str []],V.agg [V.int IntKind.i64 1,V.int IntKind.i64 0,V.str []]]=scV (levF sp s):=by
    rw [hlev]; simp [scV,Scp.v]
   rw [hx]
   have hll:(levF sp s).length=A.length+3:=by rw [hlev]; simp [hRl]
   refine ⟨by omega,?_⟩
   exact aKg (aAf _ _ _) (aPz _) (by rw [aQb,hll])
end Go.Ab
namespace Go.Ab
variable {P:Program} {F T:Nat→Nat}
open Go.Lib
theorem t182 (hf:bFy P F T) (a b:Scp):PTr P (F 182) [a.v,b.v] (.bool (covB a b)):=by
 refine ptrC [] hf (by simp) rfl ?_
 obtain ⟨k,sp,n⟩:=a
 obtain ⟨k2,sp2,n2⟩:=b
 by_cases h1:k=k2
 ·subst h1
  by_cases h2:k=3
  ·have hc:covB ⟨k,sp,n⟩ ⟨k,sp2,n2⟩=(decide (sp=sp2)&&decide (n=n2)):=by simp [covB,h2]
   rw [hc]
   simp only [c182,push_cast,seval,-Nat.reducePow,Scp.v,h2,view]
  ·by_cases h3:k=2
   ·have hc:covB ⟨k,sp,n⟩ ⟨k,sp2,n2⟩=decide (sp=sp2):=by simp [covB,h3]
    rw [hc]
    simp only [c182,push_cast,seval,-Nat.reducePow,Scp.v,h3,view]
   ·have hc:covB ⟨k,sp,n⟩ ⟨k,sp2,n2⟩=true:=by simp [covB,h2,h3]
    rw [hc]
    simp only [c182,push_cast,seval,-Nat.reducePow,Scp.v,h2,h3,view]
 ·have hc:covB ⟨k,sp,n⟩ ⟨k2,sp2,n2⟩=false:=by simp [covB,h1]
  rw [hc]
  simp only [c182,push_cast,seval,-Nat.reducePow,Scp.v,h1,view]
def ixS (l:List (List UInt8)) (x:List UInt8):Int:=match l.findIdx? (·==x) with | none=>-1 | some i=>i
theorem bD1 (l:List (List UInt8)) (x:List UInt8):decide (0≤ixS l x)=l.contains x:=by
 unfold ixS
 cases h:l.findIdx? (·==x) with
 | none =>
   rw [List.findIdx?_eq_none_iff] at h
   have:l.contains x=false:=by
    cases hb:l.contains x with
    | false=>rfl
    | true=>have:=h x (List.contains_iff_mem.1 hb); simp at this
   rw [this]; rfl
 | some i =>
   rw [List.findIdx?_eq_some_iff_getElem] at h
   obtain ⟨hi,h1,h2⟩:=h
   have:l.contains x=true:=List.contains_iff_mem.2 (by rw [← beq_iff_eq.1 h1]; exact List.getElem_mem hi)
   rw [this]; simp
theorem t222 (hf:aZk P F T) (l:List (List UInt8)) (x:List UInt8) (hl:l.length≤2^60):PTr P (F 222) [.lst 1 (l.map .str),.str x] (.int .i64 (ixS l x)):=by
 refine ptrC [] hf (by simp) rfl ?_
 have hln:(l.map V.str).length=l.length:=List.length_map ..
 simp only [c222,push_cast,seval,-Nat.reducePow,hln]
 refine aAc (fun m s1=>∃ i,i≤l.length∧m=l.length-i∧(∀ k,k<i→l.getD k []≠x)∧s1.env 0=.lst 1 (l.map .str)∧s1.env 1=.str x∧s1.env 7=.int .i64 l.length∧s1.env 8=.int .i64 i) l.length ⟨0,?_⟩ fun m s1 hJ=>?_
 ·simp only [push_cast,seval,-Nat.reducePow]
  exact ⟨rfl,fun k hk=>absurd hk (Nat.not_lt_zero _)⟩
 ·obtain ⟨i,hi,rfl,hn,j0,j1,j7,j8⟩:=hJ
  by_cases h:i<l.length
  ·have h':((i:Nat):Int)<((l.length:Nat):Int):=by omega
   have hg:=aSd h
   by_cases e:x=l.getD i []
   ·have hix:ixS l x=i:=by
     have:l.findIdx? (·==x)=some i:=by
      rw [List.findIdx?_eq_some_iff_getElem]
      refine ⟨h,?_,fun j hj=>?_⟩
      ·simp [e,List.getD,h]
      ·have:=hn j hj
       have hjl:j<l.length:=by omega
       simpa [List.getD,hjl] using this
     rw [ixS,this]
    simp only [push_cast,seval,-Nat.reducePow,j0,j1,j7,j8,h',hln,hg,e,view]
    rw [← e,hix]
    exact ⟨h,rfl⟩
   ·simp only [push_cast,seval,-Nat.reducePow,j0,j1,j7,j8,h',hln,hg,e]
    refine ⟨h,⟨by omega,by omega⟩,l.length-(i+1),by omega,i+1,by omega,rfl,fun k hk=>?_,by simp⟩
    by_cases hki:k=i
    ·rw [hki]; exact fun q=>e q.symm
    ·exact hn k (by omega)
  ·have h':¬ ((i:Nat):Int)<((l.length:Nat):Int):=by omega
   obtain rfl:i=l.length:=by omega
   have hix:ixS l x=-1:=by
    have:l.findIdx? (·==x)=none:=by
     rw [List.findIdx?_eq_none_iff]
     intro y hy
     obtain ⟨j,hj,rfl⟩:=List.mem_iff_getElem.1 hy
     have:=hn j hj
     simpa [List.getD,hj] using this
    rw [ixS,this]
   simp only [push_cast,seval,-Nat.reducePow,j0,j1,j7,j8,h',hix,view]
theorem t220 (hf:bAg P F T) (h222:aZk P F T) (l:List (List UInt8)) (x:List UInt8) (hl:l.length≤2^60):PTr P (F 220) [.lst 1 (l.map .str),.str x] (.bool (l.contains x)):=by
 refine ptrC [] hf (by simp) rfl ?_
 rw [← bD1]
 simp only [c220,push_cast,seval,-Nat.reducePow]
 refine aAb (t222 h222 l x hl) (by simp only [push_cast,seval,-Nat.reducePow,aH7]) (by simp only [push_cast,seval,-Nat.reducePow]) ?_
 simp only [push_cast,seval,-Nat.reducePow,view]
end Go.Ab
namespace Go.Ab
variable {P:Program} {F T:Nat→Nat}
open Go.Lib
theorem bHv {l:List Scp} {i:Nat} (h:i<l.length):∃ q,l[i]?=some q∧(scV l).getD i .junk=.agg [.int .i64 q.k,.int .i64 q.sp,.str q.n]:=⟨l[i],by simp [h],by simp [scV,List.getD,h,Scp.v]⟩
theorem bGp {l:List Rul} {i:Nat} (h:i<l.length):∃ q,l[i]?=some q∧(ruV l).getD i .junk=.agg [.bool q.al,.int .i64 q.ri,.str q.gr,.int .i64 q.sc.k,.int .i64 q.sc.sp,.str q.sc.n]:=⟨l[i],by simp [h],by simp [ruV,List.getD,h,Rul.v]⟩
theorem bD4 (l:List Rul):(ruV l).length=l.length:=List.length_map ..
theorem aJ8 (l:List Rul):V.imms (ruV l)=true:=aFs _ _ fun q=>rfl
theorem aQc {α:Type} {l:List α} {i:Nat} {q:α} (h:l[i]?=some q):l.drop i=q::l.drop (i+1):=by
 obtain ⟨h1,rfl⟩:=List.getElem?_eq_some_iff.1 h
 exact List.drop_eq_getElem_cons h1
theorem bCl (sp:Int) (s:List UInt8):(levF sp s).length≤s.length+3:=by
 have:=aM9 sp s s.length
 simp [levF]; omega
theorem aY5 {sp:Int} {s:List UInt8} (h:aE1 sp s=true):s.length≤100:=by
 by_cases h1:s.length≤100
 ·exact h1
 ·exfalso; simp [aE1,h1] at h
def polV (gv:List V) (rs:List Rul) (dv:List V):V:=.agg [.lst 2 gv,.lst 6 (ruV rs),.lst 5 dv]
theorem t178 (hf:bFr P F T) {sp:Int} {s:List UInt8} {g:List (List UInt8)} (h185:PTr P (F 185) [ttV sp s] (.bool (aE1 sp s))) (h181:aE1 sp s=true→PTr P (F 181) [ttV sp s] (.lst 3 (scV (levF sp s)))) (h182:∀ a b:Scp,PTr P (F 182) [a.v,b.v] (.bool (covB a b))) (h220:∀ x,PTr P (F 220) [.lst 1 (g.map .str),.str x] (.bool (g.contains x)))
 (gv:List V) (rs:List Rul) (dv:List V) (hgv:V.imms gv=true) (hdv:V.imms dv=true) (hrs:rs.length≤2^60) (right:Int) :
 PTr P (F 178) [polV gv rs dv,.lst 1 (g.map .str),.int .i64 right,ttV sp s] (.bool (mayF rs g right sp s)):=by
 refine ptrC [] hf (by simp) rfl ?_
 have hri:=aJ8 rs
 have hgi:=aH7 g
 have hrl:=bD4 rs
 simp only [c178,push_cast,seval,-Nat.reducePow,polV,ttV,hgv,hdv,hri] at h185 h181 ⊢
 refine aAb h185 (by simp only [push_cast,seval,-Nat.reducePow]) (by simp only [push_cast,seval,-Nat.reducePow]) ?_
 by_cases hv:aE1 sp s=true
 rotate_left
 ·have hv':aE1 sp s=false:=by simpa using hv
  simp only [push_cast,seval,-Nat.reducePow,hv',view,mayF,Bool.false_and]
 by_cases a1:right<1
 ·have d1:¬ 1≤right:=by omega
  simp only [push_cast,seval,-Nat.reducePow,hv,a1,d1,view,mayF,Bool.true_and,Bool.false_and]
 by_cases a2:5<right
 ·have d2:¬ right≤5:=by omega
  simp only [push_cast,seval,-Nat.reducePow,hv,a1,a2,d2,view,mayF,Bool.true_and,Bool.false_and,Bool.and_false]
 have d1:1≤right:=by omega
 have d2:right≤5:=by omega
 have hm:mayF rs g right sp s=mayL rs g right (levF sp s):=by simp only [mayF,hv,d1,d2,decide_true,Bool.true_and]
 rw [hm]
 simp only [push_cast,seval,-Nat.reducePow,hv,a1,a2]
 refine aAb (h181 hv) (by simp only [push_cast,seval,-Nat.reducePow]) (by simp only [push_cast,seval,-Nat.reducePow,aPz]) ?_
 have hsl:=aY5 hv
 have hll:=bCl sp s
 obtain ⟨LV,hLV⟩:∃ LV,levF sp s=LV:=⟨_,rfl⟩
 rw [hLV] at hll ⊢
 have hlen:(scV LV).length=LV.length:=aQb LV
 simp only [push_cast,seval,-Nat.reducePow,hlen]
 refine aAc (fun m s1=>∃ i,i≤LV.length∧m=LV.length-i∧mayL rs g right LV=mayL rs g right (LV.drop i)∧s1.env 1=.lst 1 (g.map .str)∧s1.env 2=.int .i64 right∧s1.env 4=.ptr 4 0∧s1.L 4=some (.box (T 16) [.lst 2 gv,.lst 6 (ruV rs),.lst 5 dv])∧s1.env 27=.lst 3 (scV LV)∧s1.env 28=.int .i64 LV.length∧s1.env 29=.int .i64 i∧5≤s1.nx) LV.length ⟨0,?_⟩ fun m s1 hJ=>?_
 ·simp only [push_cast,seval,-Nat.reducePow]
  rfl
 ·obtain ⟨i,hi,rfl,hma,j1,j2,j4,jB,j27,j28,j29,jn⟩:=hJ
  by_cases h:i<LV.length
  ·have h':((i:Nat):Int)<((LV.length:Nat):Int):=by omega
   obtain ⟨lv,hlv,hg⟩:=bHv h
   have hdr:=aQc hlv
   rw [hdr,mayL] at hma
   have q4:4≠s1.nx+75:=by omega
   simp only [push_cast,seval,-Nat.reducePow,j1,j2,j4,jB,j27,j28,j29,h',hlen,hg,q4]
   refine ⟨h,?_⟩
   refine aAc (fun m2 s2=>∃ k a b d,k≤rs.length∧m2=rs.length-k∧aQm g right lv rs (false,true)=aQm g right lv (rs.drop k) (a,b)∧s2.env 1=.lst 1 (g.map .str)∧s2.env 2=.int .i64 right∧s2.env 4=.ptr 4 0∧s2.L 4=some (.box (T 16) [.lst 2 gv,.lst 6 (ruV rs),.lst 5 dv])∧s2.env 27=.lst 3 (scV LV)∧s2.env 28=.int .i64 LV.length∧s2.env 29=.int .i64 i∧s2.env 10=.ptr d 0∧s2.L d=some (.box (T 18) [.int .i64 lv.k,.int .i64 lv.sp,.str lv.n])∧s2.env 11=.bool a∧s2.env 12=.bool b∧s2.env 34=.lst 6 (ruV rs)∧s2.env 35=.int .i64 rs.length∧s2.env 36=.int .i64 k∧5≤d∧d<s2.nx) rs.length ⟨0,false,true,s1.nx+75,?_⟩ fun m2 s2 hK=>?_
   ·simp only [push_cast,seval,-Nat.reducePow,j1,j2,j4,jB,j27,j28,j29,q4,hrl]
    exact ⟨rfl,by omega⟩
   ·obtain ⟨k,a,b,d,hk,rfl,hat,k1,k2,k4,kB,k27,k28,k29,k10,kD,k11,k12,k34,k35,k36,kd,kd2⟩:=hK
    have p4:4≠s2.nx+79:=by omega
    have pd:d≠s2.nx+79:=by omega
    by_cases e:k<rs.length
    ·have e':((k:Nat):Int)<((rs.length:Nat):Int):=by omega
     obtain ⟨r,hr,hgr⟩:=bGp e
     have hdk:=aQc hr
     rw [hdk,aQm] at hat
     by_cases e1:r.ri=right
     rotate_left
     ·have hh:hitB g right lv r=false:=by simp [hitB,e1]
      rw [hh] at hat
      simp only [push_cast,seval,-Nat.reducePow,k1,k2,k4,kB,k27,k28,k29,k10,kD,k11,k12,k34,k35,k36,e',hrl,hgr,e1,p4,pd]
      refine ⟨e,⟨by omega,by omega⟩,rs.length-(k+1),by omega,k+1,a,b,d,by omega,rfl,hat,rfl,?_,rfl,rfl,by simp,kd,by omega⟩
      repeat rw [aAg _ _ _ _ (by omega)]
      exact kD
     ·simp only [push_cast,seval,-Nat.reducePow,k1,k2,k4,kB,k27,k28,k29,k10,kD,k11,k12,k34,k35,k36,e',hrl,hgr,e1,p4,pd]
      refine ⟨e,aAb (h220 r.gr) (by simp only [push_cast,seval,-Nat.reducePow,hgi]) (by simp only [push_cast,seval,-Nat.reducePow]) ?_⟩
      cases e2:g.contains r.gr with
      | false =>
        have hh:hitB g right lv r=false:=by simp only [hitB,e2,Bool.and_false,Bool.false_and]
        rw [hh] at hat
        simp only [push_cast,seval,-Nat.reducePow,k1,k2,k4,kB,k27,k28,k29,k10,kD,k11,k12,k34,k35,k36,p4,pd]
        refine ⟨⟨by omega,by omega⟩,rs.length-(k+1),by omega,k+1,a,b,d,by omega,rfl,hat,rfl,?_,rfl,rfl,by simp,kd,by omega⟩
        repeat rw [aAg _ _ _ _ (by omega)]
        exact kD
      | true =>
        simp only [push_cast,seval,-Nat.reducePow,k1,k2,k4,kB,k27,k28,k29,k10,kD,k11,k12,k34,k35,k36,p4,pd]
        refine aAb (h182 r.sc lv) (by simp only [push_cast,seval,-Nat.reducePow,Scp.v]) (by simp only [push_cast,seval,-Nat.reducePow]) ?_
        have hh:hitB g right lv r=covB r.sc lv:=by simp only [hitB,e1,e2,decide_true,Bool.true_and]
        rw [hh] at hat
        cases e3:covB r.sc lv with
        | false =>
          rw [e3] at hat
          simp only [push_cast,seval,-Nat.reducePow,k1,k2,k4,kB,k27,k28,k29,k10,kD,k11,k12,k34,k35,k36,p4,pd]
          refine ⟨⟨by omega,by omega⟩,rs.length-(k+1),by omega,k+1,a,b,d,by omega,rfl,hat,rfl,?_,rfl,rfl,by simp,kd,by omega⟩
          repeat rw [aAg _ _ _ _ (by omega)]
          exact kD
        | true =>
          rw [e3] at hat
          cases b with
          | false =>
            simp only [push_cast,seval,-Nat.reducePow,k1,k2,k4,kB,k27,k28,k29,k10,kD,k11,k12,k34,k35,k36,p4,pd]
            refine ⟨⟨by omega,by omega⟩,rs.length-(k+1),by omega,k+1,true,false,d,by omega,rfl,hat,rfl,?_,rfl,rfl,by simp,kd,by omega⟩
            repeat rw [aAg _ _ _ _ (by omega)]
            exact kD
          | true =>
            simp only [push_cast,seval,-Nat.reducePow,k1,k2,k4,kB,k27,k28,k29,k10,kD,k11,k12,k34,k35,k36,p4,pd]
            refine ⟨⟨by omega,by omega⟩,rs.length-(k+1),by omega,k+1,true,r.al,d,by omega,rfl,hat,rfl,?_,rfl,rfl,by simp,kd,by omega⟩
            repeat rw [aAg _ _ _ _ (by omega)]
            exact kD
    ·have e':¬ ((k:Nat):Int)<((rs.length:Nat):Int):=by omega
     obtain rfl:k=rs.length:=by omega
     rw [List.drop_length,aQm] at hat
     rw [hat] at hma
     cases a with
     | true =>
       simp only [push_cast,seval,-Nat.reducePow,k1,k2,k4,kB,k27,k28,k29,k10,kD,k11,k12,k34,k35,k36,e',view]
       rw [hma]; rfl
     | false =>
       simp only [push_cast,seval,-Nat.reducePow,k1,k2,k4,kB,k27,k28,k29,k10,kD,k11,k12,k34,k35,k36,e']
       exact ⟨⟨by omega,by omega⟩,LV.length-(i+1),by omega,i+1,by omega,rfl,hma,by simp⟩
  ·have h':¬ ((i:Nat):Int)<((LV.length:Nat):Int):=by omega
   obtain rfl:i=LV.length:=by omega
   rw [List.drop_length,mayL] at hma
   simp only [push_cast,seval,-Nat.reducePow,j1,j2,j4,jB,j27,j28,j29,h',hma,view]
end Go.Ab
