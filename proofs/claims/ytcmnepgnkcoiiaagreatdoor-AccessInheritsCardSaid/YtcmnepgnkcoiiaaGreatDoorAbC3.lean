/- Several texts of one kind, merged. No condition. -/
import Derived.Test.YtcmnepgnkcoiiaaGreatDoorAbC2
import Derived.Test.YtcmnepgnkcoiiaaGreatDoorAbC1
import Derived.Test.YtcmnepgnkcoiiaaGreatDoorAbR2
set_option linter.unusedSimpArgs false
set_option linter.unusedVariables false
namespace Go.Ab
variable {P:Program} {F T:Nat→Nat}
open Go.Lib
theorem t204 (hf:Is204 P F T) (c:UInt8):PTr P (F 204) [.int .u8 c.toNat] (.int .u8 (lowB c).toNat):=by
 refine ptrC [] hf (by simp) rfl ?_
 rw [lowB_nat]
 by_cases a1:65≤c.toNat
 ·have a1':(65:Int)≤((c.toNat:Nat):Int):=by omega
  by_cases a2:c.toNat≤90
  ·have a2':((c.toNat:Nat):Int)≤90:=by omega
   rw [if_pos ⟨a1,a2⟩]
   simp only [c204,push_cast,seval,-Nat.reducePow,a1',a2',view]
   exact ⟨⟨by omega,by omega⟩,rfl⟩
  ·have a2':¬ ((c.toNat:Nat):Int)≤90:=by omega
   rw [if_neg (by omega)]
   simp only [c204,push_cast,seval,-Nat.reducePow,a1',a2',view]
 ·have a1':¬ (65:Int)≤((c.toNat:Nat):Int):=by omega
  rw [if_neg (by omega)]
  simp only [c204,push_cast,seval,-Nat.reducePow,a1',view]
theorem toNat_inj' (a b:UInt8):((a.toNat:Nat):Int)=((b.toNat:Nat):Int)↔a=b:=⟨fun h=>UInt8.toNat_inj.1 (by omega),fun h=>by rw [h]⟩
theorem t203 (hf:Is203 P F T) (h204:Is204 P F T) (a b:List UInt8) (ha:a.length≤100000) (hb:b.length≤100000):PTr P (F 203) [.str a,.str b] (.bool (decide (lowL a=lowL b))):=by
 refine ptrC [] hf (by simp) rfl ?_
 by_cases hl:a.length=b.length
 rotate_left
 ·have hl':¬ ((a.length:Nat):Int)=((b.length:Nat):Int):=by omega
  have hd:decide (lowL a=lowL b)=false:=decide_eq_false fun e=>hl (by have:=congrArg List.length e; simpa [lowL] using this)
  simp only [c203,push_cast,seval,-Nat.reducePow,hl',hd,view]
 have hl':((a.length:Nat):Int)=((b.length:Nat):Int):=by omega
 simp only [c203,push_cast,seval,-Nat.reducePow,hl']
 refine loopK_intro (fun m s1=>∃ i,i≤a.length∧m=a.length-i∧decide (lowL a=lowL b)=decide (lowL (a.drop i)=lowL (b.drop i))∧s1.env 0=.str a∧s1.env 1=.str b∧s1.env 5=.int .i64 i) a.length ⟨0,?_⟩ fun m s1 hJ=>?_
 ·simp only [push_cast,seval,-Nat.reducePow]
  rfl
 ·obtain ⟨i,hi,rfl,hd,j0,j1,j5⟩:=hJ
  by_cases h:i<a.length
  ·have h2:i<b.length:=by omega
   have h':((i:Nat):Int)<((a.length:Nat):Int):=by omega
   obtain ⟨x,hx⟩:∃ c,a.getD i 0=c:=⟨_,rfl⟩
   obtain ⟨y,hy⟩:∃ c,b.getD i 0=c:=⟨_,rfl⟩
   have ea:a.drop i=x::a.drop (i+1):=by rw [← hx,List.drop_eq_getElem_cons h]; simp [List.getD,h]
   have eb:b.drop i=y::b.drop (i+1):=by rw [← hy,List.drop_eq_getElem_cons h2]; simp [List.getD,h2]
   simp only [push_cast,seval,-Nat.reducePow,j0,j1,j5,h',hx,hy]
   refine ⟨h,callK_intro (t204 h204 x) (by simp only [push_cast,seval,-Nat.reducePow]) (by simp only [push_cast,seval,-Nat.reducePow]) ?_⟩
   simp only [push_cast,seval,-Nat.reducePow,j0,j1,j5,h',hx,hy]
   refine ⟨h2,callK_intro (t204 h204 y) (by simp only [push_cast,seval,-Nat.reducePow]) (by simp only [push_cast,seval,-Nat.reducePow]) ?_⟩
   by_cases e:lowB x=lowB y
   ·have e':(((lowB x).toNat:Nat):Int)=(((lowB y).toNat:Nat):Int):=by rw [e]
    simp only [push_cast,seval,-Nat.reducePow,j0,j1,j5,e']
    refine ⟨⟨by omega,by omega⟩,a.length-(i+1),by omega,i+1,by omega,rfl,?_,by simp⟩
    rw [hd,ea,eb]
    simp [lowL,e]
   ·have e':¬ (((lowB x).toNat:Nat):Int)=(((lowB y).toNat:Nat):Int):=fun q=>e ((toNat_inj' _ _).1 q)
    simp only [push_cast,seval,-Nat.reducePow,j0,j1,j5,e',view]
    rw [hd,ea,eb]
    simp [lowL,e]
  ·have h':¬ ((i:Nat):Int)<((a.length:Nat):Int):=by omega
   have ea:a.drop i=[]:=List.drop_of_length_le (by omega)
   have eb:b.drop i=[]:=List.drop_of_length_le (by omega)
   rw [ea,eb] at hd
   simp only [push_cast,seval,-Nat.reducePow,j0,j1,j5,h',view,hd]
theorem t205 (hf:Is205 P F T) (n:Nat) (hn:n<6):PTr P (F 205) [.int .i64 n] (.str (spaceN n)):=by
 refine ptrC [] hf (by simp) rfl ?_
 match n,hn with
 | 0,_=>simp only [c205,push_cast,seval,-Nat.reducePow,view]; rfl
 | 1,_=>simp only [c205,push_cast,seval,-Nat.reducePow,view]; rfl
 | 2,_=>simp only [c205,push_cast,seval,-Nat.reducePow,view]; rfl
 | 3,_=>simp only [c205,push_cast,seval,-Nat.reducePow,view]; rfl
 | 4,_=>simp only [c205,push_cast,seval,-Nat.reducePow,view]; rfl
 | 5,_=>simp only [c205,push_cast,seval,-Nat.reducePow,view]; rfl
theorem t193 (hf:Is193 P F T) (l:List (List UInt8)) (x:List UInt8) (hl:l.length≤2^60):PTr P (F 193) [.lst 1 (l.map .str),.str x] (.bool (l.contains x)):=by
 refine ptrC [] hf (by simp) rfl ?_
 have hln:(l.map V.str).length=l.length:=List.length_map ..
 simp only [c193,push_cast,seval,-Nat.reducePow,hln]
 refine loopK_intro (fun m s1=>∃ i,i≤l.length∧m=l.length-i∧l.contains x=(l.drop i).contains x∧s1.env 0=.lst 1 (l.map .str)∧s1.env 1=.str x∧s1.env 5=.int .i64 i) l.length ⟨0,?_⟩ fun m s1 hJ=>?_
 ·simp only [push_cast,seval,-Nat.reducePow]
  rfl
 ·obtain ⟨i,hi,rfl,hn,j0,j1,j5⟩:=hJ
  by_cases h:i<l.length
  ·have h':((i:Nat):Int)<((l.length:Nat):Int):=by omega
   have hg:=getD_str h
   obtain ⟨y,hy⟩:∃ y,l.getD i []=y:=⟨_,rfl⟩
   have el:l.drop i=y::l.drop (i+1):=by rw [← hy,List.drop_eq_getElem_cons h]; simp [List.getD,h]
   rw [el] at hn
   rw [hy] at hg
   by_cases e:y=x
   ·simp only [push_cast,seval,-Nat.reducePow,j0,j1,j5,h',hln,hg,e,view]
    rw [hn,e]
    simp
    exact h
   ·simp only [push_cast,seval,-Nat.reducePow,j0,j1,j5,h',hln,hg,e]
    refine ⟨h,⟨by omega,by omega⟩,l.length-(i+1),by omega,i+1,by omega,rfl,?_,by simp⟩
    rw [hn,List.contains_cons]
    have:(x==y)=false:=by rw [beq_eq_false_iff_ne]; exact fun q=>e q.symm
    rw [this,Bool.false_or]
  ·have h':¬ ((i:Nat):Int)<((l.length:Nat):Int):=by omega
   have el:l.drop i=[]:=List.drop_of_length_le (by omega)
   rw [el] at hn
   simp only [push_cast,seval,-Nat.reducePow,j0,j1,j5,h',hln,hn,view]
   rfl
theorem t195 (hf:Is195 P F T) (a b:Scp):PTr P (F 195) [a.v,b.v] (.bool (covB a b)):=by
 refine ptrC [] hf (by simp) rfl ?_
 obtain ⟨k,sp,n⟩:=a
 obtain ⟨k2,sp2,n2⟩:=b
 by_cases h1:k=k2
 ·subst h1
  by_cases h2:k=3
  ·have hc:covB ⟨k,sp,n⟩ ⟨k,sp2,n2⟩=(decide (sp=sp2)&&decide (n=n2)):=by simp [covB,h2]
   rw [hc]
   simp only [c195,push_cast,seval,-Nat.reducePow,Scp.v,h2,view]
  ·by_cases h3:k=2
   ·have hc:covB ⟨k,sp,n⟩ ⟨k,sp2,n2⟩=decide (sp=sp2):=by simp [covB,h3]
    rw [hc]
    simp only [c195,push_cast,seval,-Nat.reducePow,Scp.v,h3,view]
   ·have hc:covB ⟨k,sp,n⟩ ⟨k,sp2,n2⟩=true:=by simp [covB,h2,h3]
    rw [hc]
    simp only [c195,push_cast,seval,-Nat.reducePow,Scp.v,h2,h3,view]
 ·have hc:covB ⟨k,sp,n⟩ ⟨k2,sp2,n2⟩=false:=by simp [covB,h1]
  rw [hc]
  simp only [c195,push_cast,seval,-Nat.reducePow,Scp.v,h1,view]
def prefW (s:List UInt8):V:=match colF s with
 | none=>.tup [.int .i64 0,.int .i64 0]
 | some i=>if nsF (unbl (s.take i)) 5 1=0 then .tup [.int .i64 0,.int .i64 0] else .tup [.int .i64 (nsF (unbl (s.take i)) 5 1),.int .i64 i]
theorem prefW_ex (s:List UInt8):∃ y,prefW s=.tup [.int .i64 (prefF s),.int .i64 y]:=by
 unfold prefW prefF
 cases colF s with
 | none=>exact ⟨_,rfl⟩
 | some i =>
   simp only
   by_cases h:nsF (unbl (s.take i)) 5 1=0
   ·rw [if_pos h,h]; exact ⟨_,rfl⟩
   ·rw [if_neg h]; exact ⟨_,rfl⟩
theorem t202 (hf:Is202 P F T) (h102:Is102 P F T) (h203:Is203 P F T) (h204:Is204 P F T) (h205:Is205 P F T) (s:List UInt8) (hs:s.length≤8000):PTr P (F 202) [.str s] (prefW s):=by
 have him:(prefW s).imm=true:=by
  unfold prefW; split
  ·rfl
  ·split <;> rfl
 refine ptrC [] hf (by simp) him ?_
 have hix:=t102 h102 s [58] 0 (by omega) (by omega) (by simp) (by simp)
 rw [idxF_one] at hix
 unfold prefW colF
 cases hc:s.findIdx? (·==58) with
 | none =>
   simp only [List.drop_zero,hc,Option.map_none] at hix
   simp only [c202,push_cast,seval,-Nat.reducePow]
   refine callK_intro hix (by simp only [push_cast,seval,-Nat.reducePow]) (by simp only [push_cast,seval,-Nat.reducePow]) ?_
   simp only [push_cast,seval,-Nat.reducePow,view]
 | some k =>
   simp only [List.drop_zero,hc,Option.map_some,Nat.add_zero] at hix
   obtain ⟨hks,-⟩:=List.findIdx?_eq_some_iff_getElem.1 hc
   obtain ⟨p,hp⟩:∃ p,s.take k=p:=⟨_,rfl⟩
   have hpl:p.length≤8000:=by rw [← hp,List.length_take]; omega
   obtain ⟨q,hq⟩:∃ q,unbl p=q:=⟨_,rfl⟩
   have hql:q.length≤8000:=by rw [← hq]; have:=unbl_len p; omega
   simp only [hp,hq] at hix ⊢
   simp only [c202,push_cast,seval,-Nat.reducePow]
   have hk0:¬ ((k:Nat):Int)<0:=by omega
   refine callK_intro hix (by simp only [push_cast,seval,-Nat.reducePow]) (by simp only [push_cast,seval,-Nat.reducePow]) ?_
   simp only [push_cast,seval,-Nat.reducePow,hk0,hp]
   refine ⟨by omega,cutK_intro (fun s1=>s1.env 4=.int .i64 k∧s1.env 5=.str q) ?_ fun s1 hM=>?_⟩
   ·rcases List.eq_nil_or_concat p with rfl | ⟨u,x,rfl⟩
    ·have:q=[]:=by rw [← hq]; rfl
     subst this
     simp only [push_cast,seval,-Nat.reducePow]
     done
    ·have hpl2:(u.concat x).length=u.length+1:=by simp
     have hpos:(0:Int)<((u.length:Nat):Int)+1:=by omega
     have hsb:((u.length:Nat):Int)+1-1=((u.length:Nat):Int):=by omega
     have hgx:(u.concat x).getD u.length 0=x:=by simp [List.getD]
     have htu:(u.concat x).take u.length=u:=by simp
     by_cases hx:x.toNat=32
     ·have hx':((x.toNat:Nat):Int)=32:=by omega
      have:q=u:=by rw [← hq,(eq32 x).2 hx]; simp [unbl]
      subst this
      simp only [push_cast,seval,-Nat.reducePow,hpl2,hpos,hsb,hgx,hx',htu]
      exact ⟨⟨by omega,by omega⟩,by omega,⟨by omega,by omega⟩,by omega⟩
     ·have hx':¬ ((x.toNat:Nat):Int)=32:=by omega
      have hx2:¬ x=32:=fun e=>hx ((eq32 x).1 e)
      have:q=u.concat x:=by rw [← hq]; simp [unbl,hx2]
      subst this
      simp only [push_cast,seval,-Nat.reducePow,hpl2,hpos,hsb,hgx,hx']
      exact ⟨⟨by omega,by omega⟩,by omega⟩
   ·obtain ⟨j4,j5⟩:=hM
    simp only [push_cast,seval,-Nat.reducePow,j4,j5]
    refine loopK_intro (fun m s1=>∃ i,i≤6∧1≤i∧m=6-i∧nsF q 5 1=nsF q (6-i) i∧s1.env 4=.int .i64 k∧s1.env 5=.str q∧s1.env 6=.int .i64 i) 5 ⟨1,?_⟩ fun m s1 hJ=>?_
    ·simp only [push_cast,seval,-Nat.reducePow,j4,j5]
    ·obtain ⟨i,hi,hi1,rfl,hn2,j4,j5,j6⟩:=hJ
     by_cases h:i<6
     ·have h':((i:Nat):Int)<6:=by omega
      have hnx:=nsF_next q i h
      rw [hnx] at hn2
      simp only [push_cast,seval,-Nat.reducePow,j4,j5,j6,h']
      refine callK_intro (t205 h205 i h) (by simp only [push_cast,seval,-Nat.reducePow]) (by simp only [push_cast,seval,-Nat.reducePow]) ?_
      simp only [push_cast,seval,-Nat.reducePow,j4,j5,j6]
      refine callK_intro (t203 h203 h204 q (spaceN i) (by omega) (spa_len i h)) (by simp only [push_cast,seval,-Nat.reducePow]) (by simp only [push_cast,seval,-Nat.reducePow]) ?_
      by_cases e:lowL q=lowL (spaceN i)
      ·rw [if_pos e] at hn2
       have hn3:¬ nsF q 5 1=0:=by omega
       rw [if_neg hn3,hn2]
       simp only [push_cast,seval,-Nat.reducePow,j4,j5,j6,e,view]
      ·rw [if_neg e] at hn2
       simp only [push_cast,seval,-Nat.reducePow,j4,j5,j6,e]
       exact ⟨by omega,6-(i+1),by omega,i+1,by omega,by omega,rfl,hn2,by simp⟩
     ·have h':¬ ((i:Nat):Int)<6:=by omega
      obtain rfl:i=6:=by omega
      have hn3:nsF q 5 1=0:=by rw [hn2]; rfl
      simp only [push_cast,seval,-Nat.reducePow,j4,j5,j6,h',hn3,view]
end Go.Ab
namespace Go.Ab
variable {P:Program} {F T:Nat→Nat}
open Go.Lib
theorem getD_last {l:List (List UInt8)} {b:List UInt8}:((l++[b]).map V.str).getD l.length .junk=.str b:=by simp [List.getD]
theorem set_last {l:List (List UInt8)} {b c:List UInt8}:((l++[b]).map V.str).set l.length (.str c)=(l++[c]).map V.str:=by
 rw [List.map_append,List.set_append_right _ _ (by simp)]; simp
theorem t201 (hf:Is201 P F T) (s:List UInt8) (hs:s.length≤100000):PTr P (F 201) [.str s] (.lst 1 ((pieceF s).map .str)):=by
 refine ptrC [] hf (by simp) (by simp [V.imm,imms_str]) ?_
 simp only [c201,push_cast,seval,-Nat.reducePow]
 refine loopK_intro (fun m s1=>∃ i id,i≤s.length∧m=s.length-i∧s1.env 0=.str s∧s1.env 4=.int .i64 i∧s1.env 3=.own id 1 0 (pieceF (s.take i)).length∧s1.L id=some (.vec (T 21) 1 ((pieceF (s.take i)).map .str))∧id<s1.nx) s.length ⟨0,42,?_⟩ fun m s1 hJ=>?_
 ·simp only [push_cast,seval,-Nat.reducePow]
  exact ⟨rfl,rfl,rfl⟩
 ·obtain ⟨i,id,hi,rfl,j0,j4,j3,jL,jn⟩:=hJ
  have hpn:=piece_num (s.take i)
  rw [List.length_take] at hpn
  by_cases h:i<s.length
  ·have h':((i:Nat):Int)<((s.length:Nat):Int):=by omega
   obtain ⟨c,hc⟩:∃ c,s.getD i 0=c:=⟨_,rfl⟩
   have hci:c=s[i]:=by rw [← hc]; simp [List.getD,h]
   have htk:s.take (i+1)=s.take i++[c]:=by rw [hci,← List.take_concat_get (h:=h),List.concat_eq_append]
   have hdt:(s.take (i+1)).drop i=[c]:=by rw [htk,List.drop_left' (by rw [List.length_take]; omega)]
   by_cases b:c.toNat=47
   ·have b':((c.toNat:Nat):Int)=47:=by omega
    have b3:c=47:=by rw [show c=UInt8.ofNat c.toNat by simp,b]; rfl
    have hps:pieceF (s.take (i+1))=pieceF (s.take i)++[[]]:=by rw [htk,b3,pieceF_sl]
    have hlm:((pieceF (s.take i)).map V.str).length=(pieceF (s.take i)).length:=List.length_map ..
    have htl:List.take (pieceF (s.take i)).length ((pieceF (s.take i)).map V.str)=(pieceF (s.take i)).map V.str:=List.take_of_length_le (by omega)
    simp only [push_cast,seval,-Nat.reducePow,j0,j4,j3,jL,h',hc,b',hlm,htl]
    refine ⟨h,by omega,⟨by omega,by omega⟩,s.length-(i+1),by omega,i+1,s1.nx+92,by omega,rfl,by simp,by rw [hps]; simp,?_,by omega⟩
    rw [upd_same,hps]; simp
   ·have b':¬ ((c.toNat:Nat):Int)=47:=by omega
    have b3:c≠47:=fun e=>b (by rw [e]; rfl)
    obtain ⟨u,v,e1,e2⟩:=pieceF_snoc b3 (s.take i)
    rw [e1] at j3 jL
    have hul:(u++[v]).length=u.length+1:=by simp
    rw [hul] at j3
    have hg:=getD_last (l:=u) (b:=v)
    have hst:=set_last (l:=u) (b:=v) (c:=v++[c])
    have hlm:((u++[v]).map V.str).length=u.length+1:=by simp
    rw [e1,List.length_append] at hpn
    simp only [List.length_cons,List.length_nil] at hpn
    have hsb:((u.length:Nat):Int)+1-1=((u.length:Nat):Int):=by omega
    have hti:((i:Nat):Int)+1=((i+1:Nat):Int):=by omega
    have htn:(((i:Nat):Int)+1).toNat=i+1:=by omega
    have hvl:v.length≤100000:=by
     have:v∈pieceF (s.take i):=by rw [e1]; simp
     have:=piece_len v this
     rw [List.length_take] at this
     omega
    simp only [push_cast,seval,-Nat.reducePow,j0,j4,j3,jL,h',hc,b',hlm,hsb,hg,hst,htn,hdt]
    have hrc:(V.str v).recell [V.str (v++[c])]=V.str (v++[c]):=rfl
    rw [hrc,hst]
    refine ⟨h,⟨by omega,by omega⟩,⟨by omega,by omega⟩,by omega,by omega,⟨by omega,by omega⟩,by omega,by omega,by omega,by omega,by omega,by omega,⟨by omega,by omega⟩,s.length-(i+1),by omega,i+1,id,by omega,rfl,by simp,?_,?_,by omega⟩
    ·rw [htk,e2]; simp
    ·rw [upd_same,htk,e2]
  ·have h':¬ ((i:Nat):Int)<((s.length:Nat):Int):=by omega
   obtain rfl:i=s.length:=by omega
   rw [List.take_length] at j3 jL
   have hlm:((pieceF s).map V.str).length=(pieceF s).length:=List.length_map ..
   have htl:List.take (pieceF s).length ((pieceF s).map V.str)=(pieceF s).map V.str:=List.take_of_length_le (by omega)
   simp only [push_cast,seval,-Nat.reducePow,j0,j4,j3,jL,h',hlm,htl]
   exact view_own1 jL (imms_str _) hlm.symm
end Go.Ab
namespace Go.Ab
variable {P:Program} {F T:Nat→Nat}
open Go.Lib
theorem ix102 (h102:Is102 P F T) (c:UInt8):PTr P (F 102) [.str [60,62,91,93,123,125,124,35,95],.str [c],.int .i64 0] (.int .i64 (indexByte [60,62,91,93,123,125,124,35,95] c)):=by
 have hix:=t102 h102 [60,62,91,93,123,125,124,35,95] [c] 0 (by simp) (by omega) (by simp) (by simp)
 rw [idxF_one,List.drop_zero] at hix
 rw [ixb_find]
 cases hc:[60,62,91,93,123,125,124,35,95].findIdx? (·==c) with
 | none=>rw [hc] at hix; exact hix
 | some k=>rw [hc] at hix; exact hix
theorem t199 (hf:Is199 P F T) (h102:Is102 P F T) (h201:Is201 P F T) (h202:Is202 P F T) (h203:Is203 P F T) (h204:Is204 P F T) (h205:Is205 P F T) (sp:Int) (s:List UInt8) (hs:s.length≤100000):PTr P (F 199) [ttV sp s] (.bool (validF sp s)):=by
 refine ptrC [] hf (by simp) rfl ?_
 by_cases a1:sp<0
 ·have d1:¬ 0≤sp:=by omega
  simp only [c199,ttV,push_cast,seval,-Nat.reducePow,a1,view,validF,d1,Bool.false_and]
 by_cases a2:6≤sp
 ·have d2:¬ sp<6:=by omega
  simp only [c199,ttV,push_cast,seval,-Nat.reducePow,a1,a2,view,validF,d2,Bool.false_and,Bool.and_false]
 by_cases a3:s.length<1
 ·have d3:¬ 1≤s.length:=by omega
  have a3':((s.length:Nat):Int)<1:=by omega
  simp only [c199,ttV,push_cast,seval,-Nat.reducePow,a1,a2,a3',view,validF,d3,Bool.false_and,Bool.and_false]
 have a3':¬ ((s.length:Nat):Int)<1:=by omega
 by_cases a4:100<s.length
 ·have d4:¬ s.length≤100:=by omega
  have a4':(100:Int)<((s.length:Nat):Int):=by omega
  simp only [c199,ttV,push_cast,seval,-Nat.reducePow,a1,a2,a3',a4',view,validF,d4,Bool.false_and,Bool.and_false]
 have a4':¬ (100:Int)<((s.length:Nat):Int):=by omega
 have e0:validF sp s=(cleanF false s&&(pieceF s).all goodP&&!headB s&&(!decide (sp=0)||decide (prefF s=0))):=by
  have d1:0≤sp:=by omega
  have d2:sp<6:=by omega
  have d3:1≤s.length:=by omega
  have d4:s.length≤100:=by omega
  simp [validF,d1,d2,d3,d4]
 rw [e0]
 simp only [c199,ttV,push_cast,seval,-Nat.reducePow,a1,a2,a3',a4']
 refine loopK_intro (fun m s1=>∃ i,i≤s.length∧m=s.length-i∧cleanF false s=cleanF (pbAt s i) (s.drop i)∧s1.env 3=.str s∧s1.env 4=.int .i64 i∧s1.env 1=.ptr 1 0∧s1.L 1=some (.box (T 17) [.int .i64 sp,.str s])) s.length ⟨0,?_⟩ fun m s1 hJ=>?_
 ·simp only [push_cast,seval,-Nat.reducePow]
  exact ⟨rfl,rfl⟩
 ·obtain ⟨i,hi,rfl,hcl,j3,j4,j1,jL⟩:=hJ
  by_cases h:i<s.length
  ·have h':((i:Nat):Int)<((s.length:Nat):Int):=by omega
   rw [clean_step s h] at hcl
   have hib:=ix102 h102 (s.getD i 0)
   have hhas:=ixb_has [60,62,91,93,123,125,124,35,95] (s.getD i 0)
   have hpb:pbAt s i=(decide (0<i)&&decide ((s.getD (i-1) 0).toNat=32)):=rfl
   unfold badB at hcl
   obtain ⟨c,hc⟩:∃ c,s.getD i 0=c:=⟨_,rfl⟩
   rw [hc] at hib hhas hcl
   have htn:(((i:Nat):Int)+1).toNat=i+1:=by omega
   have hdt:(s.take (i+1)).drop i=[c]:=by
    have e1:s.getD i 0=s[i]:=by simp [List.getD,h]
    rw [← hc,e1,← List.take_concat_get (h:=h),List.concat_eq_append,List.drop_left' (by rw [List.length_take]; omega)]
   by_cases b1:c.toNat<32
   ·have b1':((c.toNat:Nat):Int)<32:=by omega
    simp only [push_cast,seval,-Nat.reducePow,j3,j4,j1,jL,h',hc,htn,hdt,b1',view,Bool.false_and]
    rw [hcl]; simp only [decide_eq_true b1,Bool.true_or,Bool.not_true,Bool.false_and]
    exact ⟨h,trivial⟩
   ·have b1':¬ ((c.toNat:Nat):Int)<32:=by omega
    by_cases b2:c.toNat=127
    ·have b2':((c.toNat:Nat):Int)=127:=by omega
     simp only [push_cast,seval,-Nat.reducePow,j3,j4,j1,jL,h',hc,htn,hdt,b1',b2',view,Bool.false_and]
     rw [hcl]; simp only [decide_eq_true b2,Bool.true_or,Bool.or_true,Bool.not_true,Bool.false_and]
     exact ⟨h,h,trivial⟩
    ·have b2':¬ ((c.toNat:Nat):Int)=127:=by omega
     simp only [push_cast,seval,-Nat.reducePow,j3,j4,j1,jL,h',hc,htn,hdt,b1',b2']
     repeat refine And.intro (by omega) ?_
     refine callK_intro hib (by simp only [push_cast,seval,-Nat.reducePow]) (by simp only [push_cast,seval,-Nat.reducePow]) ?_
     by_cases b3:0≤indexByte [60,62,91,93,123,125,124,35,95] c
     ·have b3b:=hhas.1 b3
      simp only [push_cast,seval,-Nat.reducePow,j3,j4,j1,jL,h',hc,htn,hdt,b3,view,Bool.false_and]
      rw [hcl,b3b]; simp only [Bool.or_true,Bool.not_true,Bool.false_and]
     ·have b3b:[60,62,91,93,123,125,124,35,95].contains c=false:=by
       cases hb:[60,62,91,93,123,125,124,35,95].contains c with
       | true=>exact absurd (hhas.2 hb) b3
       | false=>rfl
      have d1:decide (c.toNat<32)=false:=decide_eq_false b1
      have d2:decide (c.toNat=127)=false:=decide_eq_false b2
      rw [b3b,d1,d2] at hcl
      by_cases b4:c.toNat=32
      ·have b4':((c.toNat:Nat):Int)=32:=by omega
       have d4:decide (c.toNat=32)=true:=decide_eq_true b4
       rw [d4] at hcl
       by_cases b5:0<i
       ·have b5':(0:Int)<((i:Nat):Int):=by omega
        have hi1:((i:Nat):Int)-1=((i-1:Nat):Int):=by omega
        obtain ⟨I,hI⟩:∃ I,I=i-1:=⟨_,rfl⟩
        rw [← hI] at hi1 hpb
        rw [decide_eq_true b5,Bool.true_and] at hpb
        by_cases b6:(s.getD I 0).toNat=32
        ·have b6':(((s.getD I 0).toNat:Nat):Int)=32:=by omega
         rw [decide_eq_true b6] at hpb
         rw [hpb] at hcl
         simp only [push_cast,seval,-Nat.reducePow,j3,j4,j1,jL,h',hc,htn,hdt,b3,b4',b5',hi1,b6',view,Bool.false_and]
         repeat refine And.intro (by omega) ?_
         rw [hcl]; rfl
        ·have b6':¬ (((s.getD I 0).toNat:Nat):Int)=32:=by omega
         rw [decide_eq_false b6] at hpb
         rw [hpb] at hcl
         simp only [push_cast,seval,-Nat.reducePow,j3,j4,j1,jL,h',hc,htn,hdt,b3,b4',b5',hi1,b6']
         repeat refine And.intro (by omega) ?_
         refine ⟨s.length-(i+1),by omega,i+1,by omega,rfl,?_,by simp⟩
         rw [hcl]; rfl
       ·have b5':¬ (0:Int)<((i:Nat):Int):=by omega
        rw [decide_eq_false b5,Bool.false_and] at hpb
        rw [hpb] at hcl
        simp only [push_cast,seval,-Nat.reducePow,j3,j4,j1,jL,h',hc,htn,hdt,b3,b4',b5']
        repeat refine And.intro (by omega) ?_
        refine ⟨s.length-(i+1),by omega,i+1,by omega,rfl,?_,by simp⟩
        rw [hcl]; rfl
      ·have b4':¬ ((c.toNat:Nat):Int)=32:=by omega
       have d4:decide (c.toNat=32)=false:=decide_eq_false b4
       rw [d4] at hcl
       simp only [push_cast,seval,-Nat.reducePow,j3,j4,j1,jL,h',hc,htn,hdt,b3,b4']
       repeat refine And.intro (by omega) ?_
       refine ⟨s.length-(i+1),by omega,i+1,by omega,rfl,?_,by simp⟩
       rw [hcl]; rfl
  ·have h':¬ ((i:Nat):Int)<((s.length:Nat):Int):=by omega
   obtain rfl:i=s.length:=by omega
   rw [clean_end] at hcl
   rw [hcl]
   simp only [push_cast,seval,-Nat.reducePow,j3,j4,j1,jL,h']
   have him:=imms_str (pieceF s)
   have hln:((pieceF s).map V.str).length=(pieceF s).length:=List.length_map ..
   refine callK_intro (t201 h201 s hs) (by simp only [push_cast,seval,-Nat.reducePow]) (by simp only [push_cast,seval,-Nat.reducePow,him]) ?_
   simp only [push_cast,seval,-Nat.reducePow,hln]
   refine loopK_intro (fun m s1=>∃ i,i≤(pieceF s).length∧m=(pieceF s).length-i∧(pieceF s).all goodP=((pieceF s).drop i).all goodP∧s1.env 1=.ptr 1 0∧s1.env 3=.str s∧s1.env 5=.lst 1 ((pieceF s).map V.str)∧s1.env 6=.int .i64 i∧s1.L 1=some (.box (T 17) [.int .i64 sp,.str s])) (pieceF s).length ⟨0,?_⟩ fun m s1 hJ=>?_
   ·simp only [push_cast,seval,-Nat.reducePow,j3,j1,jL]
    rfl
   ·obtain ⟨i,hi,rfl,hn,j1,j3,j5,j6,jL⟩:=hJ
    by_cases h:i<(pieceF s).length
    ·have h':((i:Nat):Int)<(((pieceF s).length:Nat):Int):=by omega
     have hg:=getD_str h
     have hpn:=piece_num s
     rw [all_drop goodP [] h] at hn
     obtain ⟨p,hp⟩:∃ p,(pieceF s).getD i []=p:=⟨_,rfl⟩
     have hpl:p.length≤s.length:=by
      have:p∈pieceF s:=by rw [← hp]; simp [List.getD,h]
      exact piece_len p this
     rw [hp] at hg hn
     by_cases b1:p=[]
     ·have hgo:goodP p=false:=by rw [b1]; rfl
      rw [hgo,Bool.false_and] at hn
      simp only [push_cast,seval,-Nat.reducePow,j1,j3,j5,j6,jL,h',hln,hg,b1,view,hn,Bool.false_and]
      exact h
     ·have b1p:0<p.length:=List.length_pos_iff.2 b1
      obtain ⟨c,hc⟩:∃ c,p.getD 0 0=c:=⟨_,rfl⟩
      obtain ⟨d,hd⟩:∃ d,p.getD (p.length-1) 0=d:=⟨_,rfl⟩
      have hd2:(((p.length:Nat):Int)-1).toNat=p.length-1:=by omega
      have hgo:goodP p=(!decide (c=32)&&!decide (d=32)):=by simp only [goodP,b1,hc,hd,decide_false,Bool.not_false,Bool.true_and]
      by_cases b2:c.toNat=32
      ·have b2':((c.toNat:Nat):Int)=32:=by omega
       rw [decide_eq_true ((eq32 c).2 b2),Bool.not_true,Bool.false_and] at hgo
       rw [hgo,Bool.false_and] at hn
       simp only [push_cast,seval,-Nat.reducePow,j1,j3,j5,j6,jL,h',hln,hg,b1,hc,b2',view,hn,Bool.false_and]
       exact ⟨h,h,b1p⟩
      ·have b2':¬ ((c.toNat:Nat):Int)=32:=by omega
       rw [decide_eq_false (fun e=>b2 ((eq32 c).1 e)),Bool.not_false,Bool.true_and] at hgo
       by_cases b3:d.toNat=32
       ·have b3':((d.toNat:Nat):Int)=32:=by omega
        rw [decide_eq_true ((eq32 d).2 b3),Bool.not_true] at hgo
        rw [hgo,Bool.false_and] at hn
        simp only [push_cast,seval,-Nat.reducePow,j1,j3,j5,j6,jL,h',hln,hg,b1,hc,b2',hd2,hd,b3',view,hn,Bool.false_and]
        exact ⟨h,h,b1p,h,h,by omega,by omega,by omega⟩
       ·have b3':¬ ((d.toNat:Nat):Int)=32:=by omega
        rw [decide_eq_false (fun e=>b3 ((eq32 d).1 e)),Bool.not_false] at hgo
        rw [hgo,Bool.true_and] at hn
        simp only [push_cast,seval,-Nat.reducePow,j1,j3,j5,j6,jL,h',hln,hg,b1,hc,b2',hd2,hd,b3']
        exact ⟨h,h,b1p,h,h,by omega,by omega,by omega,⟨by omega,by omega⟩,(pieceF s).length-(i+1),by omega,i+1,by omega,rfl,hn,by simp⟩
    ·have h':¬ ((i:Nat):Int)<(((pieceF s).length:Nat):Int):=by omega
     obtain rfl:i=(pieceF s).length:=by omega
     simp only [List.drop_length,List.all_nil] at hn
     rw [hn]
     have a3p:0<s.length:=by omega
     obtain ⟨c,hc⟩:∃ c,s.getD 0 0=c:=⟨_,rfl⟩
     have hhd:headB s=(decide (c.toNat=58)||(decide (97≤c.toNat)&&decide (c.toNat≤122))):=by rw [headB,hc]
     by_cases b1:c.toNat=58
     ·have b1':((c.toNat:Nat):Int)=58:=by omega
      have hh:headB s=true:=by rw [hhd,decide_eq_true b1]; rfl
      simp only [push_cast,seval,-Nat.reducePow,j1,j3,j5,j6,jL,h',hln,hc,b1',hh,view,Bool.not_true,Bool.and_false,Bool.false_and]
      (repeat' apply And.intro) <;> first | exact a3p | trivial
     ·have b1':¬ ((c.toNat:Nat):Int)=58:=by omega
      by_cases b2:97≤c.toNat∧c.toNat≤122
      ·have b2':(97:Int)≤((c.toNat:Nat):Int):=by omega
       have b3':((c.toNat:Nat):Int)≤122:=by omega
       have hh:headB s=true:=by rw [hhd,decide_eq_true b2.1,decide_eq_true b2.2,Bool.and_true,Bool.or_true]
       simp only [push_cast,seval,-Nat.reducePow,j1,j3,j5,j6,jL,h',hln,hc,b1',b2',b3',hh,view,Bool.not_true,Bool.and_false,Bool.false_and]
       (repeat' apply And.intro) <;> first | exact a3p | trivial
      ·have hh:headB s=false:=by
        rw [hhd,decide_eq_false b1,Bool.false_or]
        by_cases e:97≤c.toNat
        ·rw [decide_eq_false (fun e2=>b2 ⟨e,e2⟩),Bool.and_false]
        ·rw [decide_eq_false e,Bool.false_and]
       rw [hh]
       have hpre:=t202 h202 h102 h203 h204 h205 s (by omega)
       obtain ⟨y,hpv⟩:=prefW_ex s
       rw [hpv] at hpre
       by_cases e:97≤c.toNat
       ·have b2':(97:Int)≤((c.toNat:Nat):Int):=by omega
        have b3':¬ ((c.toNat:Nat):Int)≤122:=by omega
        simp only [push_cast,seval,-Nat.reducePow,j1,j3,j5,j6,jL,h',hln,hc,b1',b2',b3']
        repeat refine And.intro a3p ?_
        refine callK_intro hpre (by simp only [push_cast,seval,-Nat.reducePow]) (by simp only [push_cast,seval,-Nat.reducePow]) ?_
        by_cases e5:sp=0
        ·simp only [push_cast,seval,-Nat.reducePow,j1,j3,j5,j6,jL,e5,view,Bool.not_true,Bool.not_false,Bool.true_or,Bool.false_or,Bool.not_not]
         rw [show decide (((prefF s:Nat):Int)=0)=decide (prefF s=0) from decide_eq_decide.2 (by omega)]
        ·simp only [push_cast,seval,-Nat.reducePow,j1,j3,j5,j6,jL,e5,view,Bool.not_true,Bool.not_false,Bool.true_or,Bool.false_or,Bool.not_not]
       ·have b2':¬ (97:Int)≤((c.toNat:Nat):Int):=by omega
        simp only [push_cast,seval,-Nat.reducePow,j1,j3,j5,j6,jL,h',hln,hc,b1',b2']
        repeat refine And.intro a3p ?_
        refine callK_intro hpre (by simp only [push_cast,seval,-Nat.reducePow]) (by simp only [push_cast,seval,-Nat.reducePow]) ?_
        by_cases e5:sp=0
        ·simp only [push_cast,seval,-Nat.reducePow,j1,j3,j5,j6,jL,e5,view,Bool.not_true,Bool.not_false,Bool.true_or,Bool.false_or,Bool.not_not]
         rw [show decide (((prefF s:Nat):Int)=0)=decide (prefF s=0) from decide_eq_decide.2 (by omega)]
        ·simp only [push_cast,seval,-Nat.reducePow,j1,j3,j5,j6,jL,e5,view,Bool.not_true,Bool.not_false,Bool.true_or,Bool.false_or,Bool.not_not]
end Go.Ab
namespace Go.Ab
variable {P:Program} {F T:Nat→Nat}
open Go.Lib
theorem t200 (hf:Is200 P F T) {sp:Int} {s:List UInt8} (h199:PTr P (F 199) [ttV sp s] (.bool true)) (hs:s.length≤100000) :
 PTr P (F 200) [ttV sp s] (.lst 2 (ancV sp (anc sp s s.length))):=by
 refine ptrC [] hf (by simp) (by simp [V.imm,ancV_imm]) ?_
 simp only [c200,push_cast,seval,-Nat.reducePow,ttV] at h199 ⊢
 refine callK_intro h199 (by simp only [push_cast,seval,-Nat.reducePow]) (by simp only [push_cast,seval,-Nat.reducePow]) ?_
 simp only [push_cast,seval,-Nat.reducePow]
 refine loopK_intro (fun m s1=>∃ i id,i≤s.length∧m=s.length-i∧s1.env 1=.ptr 1 0∧s1.L 1=some (.box (T 17) [.int .i64 sp,.str s])∧s1.env 4=.int .i64 i∧2≤id∧id<s1.nx∧s1.env 3=.own id 2 0 (anc sp s i).length∧s1.L id=some (.vec (T 17) 2 (ancV sp (anc sp s i)))) s.length ⟨0,93,?_⟩ fun m s1 hJ=>?_
 ·simp only [push_cast,seval,-Nat.reducePow]
  exact ⟨rfl,rfl,rfl⟩
 ·obtain ⟨i,id,hi,rfl,j1,jB,j4,jd,jd2,j3,jO⟩:=hJ
  have hne:1≠id:=by omega
  by_cases h:i<s.length
  ·have h':((i:Nat):Int)<((s.length:Nat):Int):=by omega
   have ham:=anc_len sp s i
   have has:=anc_succ sp s i
   obtain ⟨c,hc⟩:∃ c,s.getD i 0=c:=⟨_,rfl⟩
   rw [hc] at has
   by_cases b:c.toNat=47
   ·have b':((c.toNat:Nat):Int)=47:=by omega
    have hlen:(ancV sp (anc sp s i)).length=(anc sp s i).length:=ancV_len _ _
    have htk:List.take (anc sp s i).length (ancV sp (anc sp s i))=ancV sp (anc sp s i):=List.take_of_length_le (by omega)
    have b3:c=47:=by rw [show c=UInt8.ofNat c.toNat by simp,b]; rfl
    rw [if_pos b3] at has
    simp only [push_cast,seval,-Nat.reducePow,j1,jB,j4,j3,jO,h',hc,b',hne,hlen,htk]
    have hap:ancV sp (anc sp s i)++[V.agg [V.int IntKind.i64 sp,V.str (List.take i s)]]=ancV sp (anc sp s (i+1)):=by rw [has]; simp [ancV]
    have hl2:(anc sp s (i+1)).length=(anc sp s i).length+1:=by rw [has]; simp
    rw [hap]
    repeat refine And.intro (by omega) ?_
    exact ⟨s.length-(i+1),by omega,i+1,s1.nx+91,by omega,rfl,by simp,by omega,by omega,by rw [hl2],upd_same _ _ _⟩
   ·have b':¬ ((c.toNat:Nat):Int)=47:=by omega
    have b3:¬ c=47:=fun e=>b (by rw [e]; rfl)
    rw [if_neg b3,List.append_nil] at has
    simp only [push_cast,seval,-Nat.reducePow,j1,jB,j4,j3,jO,h',hc,b',hne]
    refine ⟨h,⟨by omega,by omega⟩,s.length-(i+1),by omega,i+1,id,by omega,rfl,by simp,by omega,by omega,by rw [has],by rw [has]; exact jO⟩
  ·have h':¬ ((i:Nat):Int)<((s.length:Nat):Int):=by omega
   obtain rfl:i=s.length:=by omega
   simp only [push_cast,seval,-Nat.reducePow,j1,jB,j4,j3,jO,h']
   exact view_own1 jO (ancV_imm _ _) (ancV_len _ _).symm
theorem t194 (hf:Is194 P F T) (h200:Is200 P F T) {sp:Int} {s:List UInt8} (h199:PTr P (F 199) [ttV sp s] (.bool true)) (hs:s.length≤90000) :
 PTr P (F 194) [ttV sp s] (.lst 3 (scV (levF sp s))):=by
 refine ptrC [] hf (by simp) (by simp [V.imm,scV_imm]) ?_
 obtain ⟨A,hA⟩:∃ A,anc sp s s.length=A:=⟨_,rfl⟩
 have hAl:A.length≤90000:=by have:=anc_len sp s s.length; rw [hA] at this; omega
 have hlev:levF sp s=pgS sp s::(A.reverse.map (pgS sp))++[⟨2,sp,[]⟩,⟨1,0,[]⟩]:=by rw [levF,hA]; rfl
 have h200':=t200 h200 h199 (by omega)
 rw [hA] at h200'
 have hai:=ancV_imm sp A
 have hal:(ancV sp A).length=A.length:=ancV_len _ _
 simp only [c194,push_cast,seval,-Nat.reducePow,ttV] at h200' ⊢
 refine callK_intro h200' (by simp only [push_cast,seval,-Nat.reducePow]) (by simp only [push_cast,seval,-Nat.reducePow,hai]) ?_
 simp only [push_cast,seval,-Nat.reducePow,hal]
 refine ⟨⟨by omega,by omega⟩,?_⟩
 refine loopK_intro (fun m s1=>∃ n id3,n≤A.length∧m=n∧s1.env 1=.ptr 1 0∧s1.L 1=some (.box (T 17) [.int .i64 sp,.str s])∧s1.env 4=.lst 2 (ancV sp A)∧s1.env 5=.int .i64 ((n:Int)-1)∧s1.env 3=.own id3 3 0 (A.length-n+1)∧s1.L id3=some (.vec (T 18) 3 (scV (pgS sp s::(A.drop n).reverse.map (pgS sp))))∧id3<s1.nx∧id3≠1∧2≤s1.nx) A.length ⟨A.length,42,?_⟩ fun m s1 hJ=>?_
 ·simp only [push_cast,seval,-Nat.reducePow]
  refine ⟨by rw [Nat.sub_self],?_⟩
  rw [List.drop_length]; rfl
 ·obtain ⟨n,id3,hn,rfl,j1,jB,j4,j5,j3,jO,k1,k2,k3⟩:=hJ
  have hsl:(scV (pgS sp s::(A.drop m).reverse.map (pgS sp))).length=A.length-m+1:=by rw [scV_len]; simp
  have htk:List.take (A.length-m+1) (scV (pgS sp s::(A.drop m).reverse.map (pgS sp)))=scV (pgS sp s::(A.drop m).reverse.map (pgS sp)):=List.take_of_length_le (by omega)
  have k1n:1≠id3:=fun e=>k2 e.symm
  cases m with
  | zero =>
    rw [List.drop_zero,Nat.sub_zero] at *
    simp only [push_cast,seval,-Nat.reducePow,j1,jB,j4,j5,j3,jO,hsl,htk,k1n]
    have hx:scV (pgS sp s::A.reverse.map (pgS sp))++[V.agg [V.int IntKind.i64 2,V.int IntKind.i64 sp,V.str []],V.agg [V.int IntKind.i64 1,V.int IntKind.i64 0,V.str []]]=scV (levF sp s):=by
     rw [hlev]; simp [scV,Scp.v]
    rw [hx]
    have hll:(levF sp s).length=A.length+3:=by rw [hlev]; simp
    refine ⟨by omega,?_⟩
    exact view_own1 (upd_same _ _ _) (scV_imm _) (by rw [scV_len,hll])
  | succ k =>
    have h5:((k+1:Nat):Int)-1=((k:Nat):Int):=by omega
    rw [h5] at j5
    have hg:=ancV_at sp (l:=A) (i:=k) (by omega)
    simp only [push_cast,seval,-Nat.reducePow,j1,jB,j4,j5,j3,jO,hsl,htk,hal,hg,k1n]
    have hs3:=scV_snoc (pgS sp s::(A.drop (k+1)).reverse.map (pgS sp)) (pgS sp (A.getD k []))
    have hkA:k<A.length:=by omega
    have hs4:pgS sp s::(A.drop (k+1)).reverse.map (pgS sp)++[pgS sp (A.getD k [])]=pgS sp s::(A.drop k).reverse.map (pgS sp):=by
     have er:A.getD k []=A[k]:=by simp [List.getD,hkA]
     rw [er,List.drop_eq_getElem_cons hkA,List.reverse_cons,List.map_append]
     rfl
    rw [hs4] at hs3
    simp only [pgS] at hs3 ⊢
    rw [hs3]
    exact ⟨by omega,by omega,⟨by omega,by omega⟩,k,by omega,k,s1.nx+59,by omega,rfl,rfl,by congr 1; omega,upd_same _ _ _,by omega,by omega⟩
end Go.Ab
namespace Go.Ab
variable {P:Program} {F T:Nat→Nat}
open Go.Lib
theorem t192 (hf:Is192 P F T) {sp:Int} {s:List UInt8} {g:List (List UInt8)} (h199:PTr P (F 199) [ttV sp s] (.bool (validF sp s))) (h194:validF sp s=true→PTr P (F 194) [ttV sp s] (.lst 3 (scV (levF sp s)))) (h195:∀ a b:Scp,PTr P (F 195) [a.v,b.v] (.bool (covB a b))) (h193:∀ x,PTr P (F 193) [.lst 1 (g.map .str),.str x] (.bool (g.contains x)))
 (gv:List V) (rs:List Rul) (dv:List V) (hgv:V.imms gv=true) (hdv:V.imms dv=true) (hrs:rs.length≤2^60) (right:Int) :
 PTr P (F 192) [polV gv rs dv,.lst 1 (g.map .str),.int .i64 right,ttV sp s] (.bool (mayF rs g right sp s)):=by
 refine ptrC [] hf (by simp) rfl ?_
 have hri:=ruV_imm rs
 have hgi:=imms_str g
 have hrl:=ruV_len rs
 simp only [c192,push_cast,seval,-Nat.reducePow,polV,ttV,hgv,hdv,hri] at h199 h194 ⊢
 refine callK_intro h199 (by simp only [push_cast,seval,-Nat.reducePow]) (by simp only [push_cast,seval,-Nat.reducePow]) ?_
 by_cases hv:validF sp s=true
 rotate_left
 ·have hv':validF sp s=false:=by simpa using hv
  simp only [push_cast,seval,-Nat.reducePow,hv',view,mayF,Bool.false_and]
 by_cases a1:right<1
 ·have d1:¬ 1≤right:=by omega
  simp only [push_cast,seval,-Nat.reducePow,hv,a1,d1,view,mayF,Bool.true_and,Bool.false_and]
 by_cases a2:5<right
 ·have d2:¬ right≤5:=by omega
  simp only [push_cast,seval,-Nat.reducePow,hv,a1,a2,d2,view,mayF,Bool.true_and,Bool.false_and,Bool.and_false]
 have d1:1≤right:=by omega
 have d2:right≤5:=by omega
 have hm:mayF rs g right sp s=mayL rs g right (levF sp s):=by simp only [mayF,hv,d1,d2,decide_true,Bool.true_and]
 rw [hm]
 simp only [push_cast,seval,-Nat.reducePow,hv,a1,a2]
 refine callK_intro (h194 hv) (by simp only [push_cast,seval,-Nat.reducePow]) (by simp only [push_cast,seval,-Nat.reducePow,scV_imm]) ?_
 have hsl:=valid_len hv
 have hll:=levF_len sp s
 obtain ⟨LV,hLV⟩:∃ LV,levF sp s=LV:=⟨_,rfl⟩
 rw [hLV] at hll ⊢
 have hlen:(scV LV).length=LV.length:=scV_len LV
 simp only [push_cast,seval,-Nat.reducePow,hlen]
 refine loopK_intro (fun m s1=>∃ i,i≤LV.length∧m=LV.length-i∧mayL rs g right LV=mayL rs g right (LV.drop i)∧s1.env 1=.lst 1 (g.map .str)∧s1.env 2=.int .i64 right∧s1.env 4=.ptr 4 0∧s1.L 4=some (.box (T 16) [.lst 2 gv,.lst 6 (ruV rs),.lst 5 dv])∧s1.env 9=.lst 3 (scV LV)∧s1.env 10=.int .i64 i∧5≤s1.nx) LV.length ⟨0,?_⟩ fun m s1 hJ=>?_
 ·simp only [push_cast,seval,-Nat.reducePow]
  rfl
 ·obtain ⟨i,hi,rfl,hma,j1,j2,j4,jB,j9,j10,jn⟩:=hJ
  by_cases h:i<LV.length
  ·have h':((i:Nat):Int)<((LV.length:Nat):Int):=by omega
   obtain ⟨lv,hlv,hg⟩:=scV_at h
   have hdr:=drop_at hlv
   rw [hdr,mayL] at hma
   simp only [push_cast,seval,-Nat.reducePow,j1,j2,j4,jB,j9,j10,h',hlen,hg]
   refine loopK_intro (fun m2 s2=>∃ k a b,k≤rs.length∧m2=rs.length-k∧atLev g right lv rs (false,true)=atLev g right lv (rs.drop k) (a,b)∧s2.env 1=.lst 1 (g.map .str)∧s2.env 2=.int .i64 right∧s2.env 4=.ptr 4 0∧s2.L 4=some (.box (T 16) [.lst 2 gv,.lst 6 (ruV rs),.lst 5 dv])∧s2.env 9=.lst 3 (scV LV)∧s2.env 10=.int .i64 i∧s2.env 11=.bool a∧s2.env 12=.bool b∧s2.env 13=.int .i64 k∧5≤s2.nx) rs.length ⟨0,false,true,?_⟩ fun m2 s2 hK=>?_
   ·simp only [push_cast,seval,-Nat.reducePow,j1,j2,j4,jB,j9,j10,hrl]
    rfl
   ·obtain ⟨k,a,b,hk,rfl,hat,k1,k2,k4,kB,k9,k10,k11,k12,k13,kn⟩:=hK
    have p4:4≠s2.nx+86:=by omega
    by_cases e:k<rs.length
    ·have e':((k:Nat):Int)<((rs.length:Nat):Int):=by omega
     obtain ⟨r,hr,hgr⟩:=ruV_at e
     have hdk:=drop_at hr
     rw [hdk,atLev] at hat
     by_cases e1:r.ri=right
     rotate_left
     ·have hh:hitB g right lv r=false:=by simp [hitB,e1]
      rw [hh] at hat
      simp only [push_cast,seval,-Nat.reducePow,k1,k2,k4,kB,k9,k10,k11,k12,k13,hlen,hg,e',hrl,hgr,e1,p4]
      repeat refine And.intro (by omega) ?_
      exact ⟨rs.length-(k+1),by omega,k+1,a,b,by omega,rfl,hat,rfl,rfl,by simp⟩
     ·simp only [push_cast,seval,-Nat.reducePow,k1,k2,k4,kB,k9,k10,k11,k12,k13,hlen,hg,e',hrl,hgr,e1,p4]
      refine ⟨e,callK_intro (h193 r.gr) (by simp only [push_cast,seval,-Nat.reducePow,hgi]) (by simp only [push_cast,seval,-Nat.reducePow]) ?_⟩
      cases e2:g.contains r.gr with
      | false =>
        have hh:hitB g right lv r=false:=by simp only [hitB,e2,Bool.and_false,Bool.false_and]
        rw [hh] at hat
        simp only [push_cast,seval,-Nat.reducePow,k1,k2,k4,kB,k9,k10,k11,k12,k13,hlen,hg,p4]
        repeat refine And.intro (by omega) ?_
        exact ⟨rs.length-(k+1),by omega,k+1,a,b,by omega,rfl,hat,rfl,rfl,by simp⟩
      | true =>
        simp only [push_cast,seval,-Nat.reducePow,k1,k2,k4,kB,k9,k10,k11,k12,k13,hlen,hg,p4]
        repeat refine And.intro (by omega) ?_
        refine callK_intro (h195 r.sc lv) (by simp only [push_cast,seval,-Nat.reducePow,Scp.v]) (by simp only [push_cast,seval,-Nat.reducePow]) ?_
        have hh:hitB g right lv r=covB r.sc lv:=by simp only [hitB,e1,e2,decide_true,Bool.true_and]
        rw [hh] at hat
        cases e3:covB r.sc lv with
        | false =>
          rw [e3] at hat
          simp only [push_cast,seval,-Nat.reducePow,k1,k2,k4,kB,k9,k10,k11,k12,k13,hlen,hg,p4]
          repeat refine And.intro (by omega) ?_
          exact ⟨rs.length-(k+1),by omega,k+1,a,b,by omega,rfl,hat,rfl,rfl,by simp⟩
        | true =>
          rw [e3] at hat
          cases b with
          | false =>
            simp only [push_cast,seval,-Nat.reducePow,k1,k2,k4,kB,k9,k10,k11,k12,k13,hlen,hg,p4]
            repeat refine And.intro (by omega) ?_
            exact ⟨rs.length-(k+1),by omega,k+1,true,false,by omega,rfl,hat,rfl,rfl,by simp⟩
          | true =>
            simp only [push_cast,seval,-Nat.reducePow,k1,k2,k4,kB,k9,k10,k11,k12,k13,hlen,hg,p4]
            repeat refine And.intro (by omega) ?_
            exact ⟨rs.length-(k+1),by omega,k+1,true,r.al,by omega,rfl,hat,rfl,rfl,by simp⟩
    ·have e':¬ ((k:Nat):Int)<((rs.length:Nat):Int):=by omega
     obtain rfl:k=rs.length:=by omega
     rw [List.drop_length,atLev] at hat
     rw [hat] at hma
     cases a with
     | true =>
       simp only [push_cast,seval,-Nat.reducePow,k1,k2,k4,kB,k9,k10,k11,k12,k13,hlen,hg,hrl,e',view]
       rw [hma]; rfl
     | false =>
       simp only [push_cast,seval,-Nat.reducePow,k1,k2,k4,kB,k9,k10,k11,k12,k13,hlen,hg,hrl,e']
       exact ⟨⟨by omega,by omega⟩,LV.length-(i+1),by omega,i+1,by omega,rfl,hma,by simp⟩
  ·have h':¬ ((i:Nat):Int)<((LV.length:Nat):Int):=by omega
   obtain rfl:i=LV.length:=by omega
   rw [List.drop_length,mayL] at hma
   simp only [push_cast,seval,-Nat.reducePow,j1,j2,j4,jB,j9,j10,h',hlen,hma,view]
end Go.Ab
