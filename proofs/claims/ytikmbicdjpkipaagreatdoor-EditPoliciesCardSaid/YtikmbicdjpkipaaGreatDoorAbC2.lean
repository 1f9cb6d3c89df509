import Derived.Test.YtikmbicdjpkipaaGreatDoorAbC1
import Derived.Test.YtikmbicdjpkipaaGreatDoorAbZ1
import Derived.Test.YtikmbicdjpkipaaGreatDoorAbR2
open Bool renaming true_and->yA,false_and->zj,and_false->ya,not_false->zQ,not_true->zJ,and_true->xz,or_true->xx,false_or->yq,true_or->yF,not_not->yP
open List renaming drop_eq_getElem_cons->zT,length_take->yL,take_of_length_le->zm,getD->zU,map_append->xo,set_append_right->wj,take_length->zz,drop_length->xJ,take->zH,length_map->zc,length_pos_iff->xF,all_nil->xU,findIdx?_eq_some_iff_getElem->yB,drop_of_length_le->z8,drop_zero->yk,take_concat_get->xA,concat_eq_append->xe,drop_left'->wg
open And renaming intro->z7
set_option linter.unusedSimpArgs false
set_option linter.unusedVariables false
namespace Go.Ab
variable {P:Program} {F T:Nat->Nat}
open Go.Lib
theorem t187(hf:aZc P F T)(C:TitC P F)(s:List UInt8)(hs:s.length<=100000):PTr P (F 187) [.str s] (.bool (aDp false s)):=by
 refine ptrC [] hf (by simp) rfl ?_;simp only[c187,push_cast,seval,-Nat.reducePow];refine aAe (λm s1=>∃i,i<=s.length∧m=s.length-i∧aDp false s=aDp (pbAt s i) (s.drop i)∧s1.env 0=.str s∧s1.env 3=.int .i64 i) s.length ⟨0,?_⟩ λm s1 hJ=>?_
 .simp only[push_cast,seval,-Nat.reducePow];exact⟨rfl,rfl⟩
 .obtain⟨i,hi,rfl,hcl,j0,j3⟩:=hJ;by_cases h:i<s.length
  .have h':((i:Nat):Int)<((s.length:Nat):Int):=by omega
   rw[aKw s h]at hcl;have hib:=C.ib [60,62,91,93,123,125,124,35,95] (s.getD i 0);have hhas:=aXj [60,62,91,93,123,125,124,35,95] (s.getD i 0);have hpb:pbAt s i=(decide (0<i)&&decide ((s.getD (i-1) 0).toNat=32)):=rfl;unfold badB at hcl;obtain⟨c,hc⟩:∃c,s.getD i 0=c:=⟨_,rfl⟩;rw[hc]at hib hhas hcl;by_cases b1:c.toNat<32
   .have b1':((c.toNat:Nat):Int)<32:=by omega
    simp only[push_cast,seval,-Nat.reducePow,j0,j3,h',hc,b1',view];refine⟨h,?_⟩;rw[hcl];simp[b1]
   .have b1':¬((c.toNat:Nat):Int)<32:=by omega
    by_cases b2:c.toNat=127
    .have b2':((c.toNat:Nat):Int)=127:=by omega
     simp only[push_cast,seval,-Nat.reducePow,j0,j3,h',hc,b1',b2',view];refine⟨h,?_⟩;rw[hcl];simp[b2]
    .have b2':¬((c.toNat:Nat):Int)=127:=by omega
     simp only[push_cast,seval,-Nat.reducePow,j0,j3,h',hc,b1',b2'];refine⟨h,?_⟩;refine aAa hib (by simp only[push_cast,seval,-Nat.reducePow]) (by simp only[push_cast,seval,-Nat.reducePow]) ?_;by_cases b3:0<=indexByte [60,62,91,93,123,125,124,35,95] c
     .have b3b:=hhas.1 b3;simp only[push_cast,seval,-Nat.reducePow,j0,j3,h',hc,b3,view];rw[hcl,b3b];simp
     .have b3b:[60,62,91,93,123,125,124,35,95].contains c=false:=by
       cases hb:[60,62,91,93,123,125,124,35,95].contains c with
       | true=>exact absurd (hhas.2 hb) b3
       | false=>rfl
      have d1:decide (c.toNat<32)=false:=decide_eq_false b1;have d2:decide (c.toNat=127)=false:=decide_eq_false b2;rw[b3b,d1,d2]at hcl;by_cases b4:c.toNat=32
      .have b4':((c.toNat:Nat):Int)=32:=by omega
       have d4:decide (c.toNat=32)=true:=decide_eq_true b4;rw[d4]at hcl;by_cases b5:0<i
       .have b5':(0:Int)<((i:Nat):Int):=by omega
        have hi1:((i:Nat):Int)-1=((i-1:Nat):Int):=by omega
        obtain⟨I,hI⟩:∃I,I=i-1:=⟨_,rfl⟩;rw[<-hI]at hi1 hpb;rw[decide_eq_true b5,yA]at hpb;by_cases b6:(s.getD I 0).toNat=32
        .have b6':(((s.getD I 0).toNat:Nat):Int)=32:=by omega
         rw[decide_eq_true b6]at hpb;rw[hpb]at hcl;simp only[push_cast,seval,-Nat.reducePow,j0,j3,h',hc,b3,b4',b5',hi1,b6',view];refine⟨by omega,by omega,?_⟩;rw[hcl];rfl
        .have b6':¬(((s.getD I 0).toNat:Nat):Int)=32:=by omega
         rw[decide_eq_false b6]at hpb;rw[hpb]at hcl;simp only[push_cast,seval,-Nat.reducePow,j0,j3,h',hc,b3,b4',b5',hi1,b6'];refine⟨by omega,by omega,by omega,s.length-(i+1),by omega,i+1,by omega,rfl,?_,by simp⟩;rw[hcl];rfl
       .have b5':¬(0:Int)<((i:Nat):Int):=by omega
        rw[decide_eq_false b5,zj]at hpb;rw[hpb]at hcl;simp only[push_cast,seval,-Nat.reducePow,j0,j3,h',hc,b3,b4',b5'];refine⟨by omega,s.length-(i+1),by omega,i+1,by omega,rfl,?_,by simp⟩;rw[hcl];rfl
      .have b4':¬((c.toNat:Nat):Int)=32:=by omega
       have d4:decide (c.toNat=32)=false:=decide_eq_false b4;rw[d4]at hcl;simp only[push_cast,seval,-Nat.reducePow,j0,j3,h',hc,b3,b4'];refine⟨by omega,s.length-(i+1),by omega,i+1,by omega,rfl,?_,by simp⟩;rw[hcl];rfl
  .have h':¬((i:Nat):Int)<((s.length:Nat):Int):=by omega
   obtain rfl:i=s.length:=by omega
   rw[aN9]at hcl;simp only[push_cast,seval,-Nat.reducePow,j0,j3,h',hcl,view]
theorem t189(hf:aUk P F T)(s:List UInt8)(hs:s.length<=100000):PTr P (F 189) [.str s] (.str (lowL s)):=by
 refine ptrC [] hf (by simp) rfl ?_;simp only[c189,push_cast,seval,-Nat.reducePow];refine aAe (λm s1=>∃i,i<=s.length∧m=s.length-i∧s1.env 3=.own 36 1 0 s.length∧s1.env 8=.own 36 1 0 s.length∧s1.env 9=.int .i64 s.length∧s1.env 10=.int .i64 i∧s1.L 36=some (.vec (T 3) 1 (aAr (lowL (s.take i)++s.drop i)))) s.length ⟨0,?_⟩ λm s1 hJ=>?_
 .simp only[push_cast,seval,-Nat.reducePow];exact⟨rfl,rfl⟩
 .obtain⟨i,hi,rfl,j3,j8,j9,j10,jL⟩:=hJ;by_cases h:i<s.length
  .have h':((i:Nat):Int)<((s.length:Nat):Int):=by omega
   obtain⟨u,c,v,rfl,hu⟩:∃u c v,s=u++c::v∧u.length=i:=⟨s.take i,s[i],s.drop (i+1),by rw[<-zT h,List.take_append_drop],by rw[yL];omega⟩;subst hu;have e1:(u++c::v).take u.length=u:=by simp
   have e2:(u++c::v).drop u.length=c::v:=by simp
   have e3:(u++c::v).take (u.length+1)=u++[c]:=by rw[List.take_append];simp[zm]
   have e4:(u++c::v).drop (u.length+1)=v:=by simp[List.drop_append]
   rw[e1,e2]at jL;have hll:(lowL u).length=u.length:=by simp[lowL]
   have hbl:(lowL u++c::v).length=u.length+(v.length+1):=by simp[lowL]
   have hg:(aAr (lowL u++c::v)).getD u.length .junk=.int .u8 c.toNat:=by rw[<-hll];simp[aAr,zU]
   have hset:∀x:UInt8,(aAr (lowL u++c::v)).set u.length (.int .u8 x.toNat)=aAr (lowL u++x::v):=λx=>by
    have hl2:u.length=(aAr (lowL u)).length:=by simp[aAr,lowL]
    simp only[aAr,xo,List.map_cons]at hl2 ⊢;rw[hl2,wj _ _ (Nat.le_refl _)];simp
   have hlow:=aQ2 c;have hfin:∀x:UInt8,x=lowB c->lowL u++x::v=lowL (u++[c])++v:=λx hx=>by simp[lowL,hx]
   by_cases b1:65<=c.toNat∧c.toNat<=90
   .have b1':(65:Int)<=((c.toNat:Nat):Int):=by omega
    have b2':((c.toNat:Nat):Int)<=90:=by omega
    rw[if_pos b1]at hlow;have hs2:=hset (lowB c);have hadd:((c.toNat:Nat):Int)+32=(((lowB c).toNat:Nat):Int):=by omega
    simp only[push_cast,seval,-Nat.reducePow,j3,j8,j9,j10,jL,h',hg,b1',b2',hadd,hs2];have hrc:((V.int IntKind.u8 ((c.toNat:Nat):Int)).recell [V.int IntKind.u8 (((lowB c).toNat:Nat):Int)])=V.int .u8 (((lowB c).toNat:Nat):Int):=rfl;rw[hrc,hs2];refine⟨by rw[hbl];omega,by omega,by rw[hbl];omega,⟨by omega,by omega⟩,(u++c::v).length-(u.length+1),by omega,u.length+1,by omega,rfl,by simp,?_⟩;rw[e3,e4];rw[<-hfin _ rfl]
   .have hlc:lowB c=c:=by unfold lowB;rw[if_neg b1]
    by_cases b2:65<=c.toNat
    .have b1':(65:Int)<=((c.toNat:Nat):Int):=by omega
     have b2':¬((c.toNat:Nat):Int)<=90:=by omega
     simp only[push_cast,seval,-Nat.reducePow,j3,j8,j9,j10,jL,h',hg,b1',b2'];refine⟨by rw[hbl];omega,⟨by omega,by omega⟩,(u++c::v).length-(u.length+1),by omega,u.length+1,by omega,rfl,by simp,?_⟩;rw[e3,e4,<-hfin c hlc.symm]
    .have b1':¬(65:Int)<=((c.toNat:Nat):Int):=by omega
     simp only[push_cast,seval,-Nat.reducePow,j3,j8,j9,j10,jL,h',hg,b1'];refine⟨by rw[hbl];omega,⟨by omega,by omega⟩,(u++c::v).length-(u.length+1),by omega,u.length+1,by omega,rfl,by simp,?_⟩;rw[e3,e4,<-hfin c hlc.symm]
  .have h':¬((i:Nat):Int)<((s.length:Nat):Int):=by omega
   obtain rfl:i=s.length:=by omega
   simp only[zz,xJ,List.append_nil]at jL;have hbl:(aAr (lowL s)).length=s.length:=by simp[aAr,lowL]
   have htk:zH s.length (aAr (lowL s))=aAr (lowL s):=zm (by omega);simp only[push_cast,seval,-Nat.reducePow,j3,j8,j9,j10,jL,h',htk];exact⟨by rw[<-hbl];simp[aAr],lowL s,rfl,rfl⟩
def spaV:V:=.agg [.str [],.str [84,97,108,107],.str [85,115,101,114],.str [84,101,109,112,108,97,116,101],.str [67,97,116,101,103,111,114,121],.str [80,114,111,106,101,99,116]]
theorem t190(hf:aVx P F T):PTr P (F 190) [] spaV:=by
 refine ptrC [] hf (by simp) rfl ?_;simp only[c190,push_cast,seval,-Nat.reducePow,view];rfl
def aM9(s:List UInt8):V:=match colF s with
 | none=>.tup [.int .i64 0,.str [],.bool false]
 | some i=>if nsF (unbl (s.take i)) 5 1=0 then .tup [.int .i64 0,.str [],.bool false]else .tup [.int .i64 (nsF (unbl (s.take i)) 5 1),.str (s.drop (i+1)),.bool true]
theorem aLt(s:List UInt8):(unbl s).length<=s.length:=by
 unfold unbl;split
 .simp
 .exact Nat.le_refl _
theorem aRy(p:List UInt8)(i:Nat)(h:i<6):nsF p (6-i) i=if lowL p=lowL (aGw i)then i else nsF p (6-(i+1)) (i+1):=by
 obtain⟨k,hk⟩:∃k,6-i=k+1:=⟨5-i,by omega⟩;have:6-(i+1)=k:=by omega
 rw[hk,this,nsF]
theorem bLe(i:Nat)(h:i<6):pack false (((([.str [],.str [84,97,108,107],.str [85,115,101,114],.str [84,101,109,112,108,97,116,101],.str [67,97,116,101,103,111,114,121],.str [80,114,111,106,101,99,116]]:List V).drop (i*1)).take 1))=.str (aGw i):=by
 match i,h with
 | 0,_=>rfl
 | 1,_=>rfl
 | 2,_=>rfl
 | 3,_=>rfl
 | 4,_=>rfl
 | 5,_=>rfl
theorem aXn(i:Nat)(h:i<6):(aGw i).length<=100000:=by
 match i,h with
 | 0,_=>decide
 | 1,_=>decide
 | 2,_=>decide
 | 3,_=>decide
 | 4,_=>decide
 | 5,_=>decide
theorem t188(hf:bA5 P F T)(C:TitC P F)(h189:aUk P F T)(h190:aVx P F T)(s:List UInt8)(hs:s.length<=100000):PTr P (F 188) [.str s] (aM9 s):=by
 have him:(aM9 s).imm=true:=by
  unfold aM9;split
  .rfl
  .split<;>rfl
 refine ptrC [] hf (by simp) him ?_;have hcut:=C.cut s hs;unfold aM9;cases hc:colF s with
 | none=>rw[hc]at hcut;simp only[c188,push_cast,seval,-Nat.reducePow];refine aAa hcut (by simp only[push_cast,seval,-Nat.reducePow]) (by simp only[push_cast,seval,-Nat.reducePow]) ?_;simp only[push_cast,seval,-Nat.reducePow,view]
 | some k =>
   rw[hc]at hcut;obtain⟨p,hp⟩:∃p,s.take k=p:=⟨_,rfl⟩;have hpl:p.length<=100000:=by rw[<-hp,yL];omega
   obtain⟨q,hq⟩:∃q,unbl p=q:=⟨_,rfl⟩;have hql:q.length<=100000:=by rw[<-hq];have:=aLt p;omega
   have hts:=C.tsuf p hpl;rw[hq]at hts;simp only[hp,hq]at hcut ⊢;simp only[c188,push_cast,seval,-Nat.reducePow];refine aAa hcut (by simp only[push_cast,seval,-Nat.reducePow]) (by simp only[push_cast,seval,-Nat.reducePow]) ?_;simp only[push_cast,seval,-Nat.reducePow];refine aAa hts (by simp only[push_cast,seval,-Nat.reducePow]) (by simp only[push_cast,seval,-Nat.reducePow]) ?_;refine aAa (t189 h189 q hql) (by simp only[push_cast,seval,-Nat.reducePow]) (by simp only[push_cast,seval,-Nat.reducePow]) ?_;refine aAa (t190 h190) (by simp only[push_cast,seval,-Nat.reducePow]) rfl ?_;refine aAe (λm s1=>∃i,i<=6∧m=6-i∧(i=0∨nsF q 5 1=nsF q (6-i) i)∧s1.env 6=.str (s.drop (k+1))∧s1.env 8=.str (lowL q)∧s1.env 22=spaV∧s1.env 23=.int .i64 i) 6 ⟨0,?_⟩ λm s1 hJ=>?_
   .simp only[push_cast,seval,-Nat.reducePow,spaV]
   .obtain⟨i,hi,rfl,hn,j6,j8,j22,j23⟩:=hJ;by_cases h:i<6
    .have h':((i:Nat):Int)<6:=by omega
     have hpk:=bLe i h;have hnx:=aRy q i h;by_cases h0:i=0
     .have h0':((i:Nat):Int)=0:=by omega
      simp only[push_cast,seval,-Nat.reducePow,spaV,j6,j8,j22,j23,h',hpk,h0'];subst h0;exact⟨5,by omega,1,by omega,rfl,Or.inr rfl,rfl⟩
     .have h0':¬((i:Nat):Int)=0:=by omega
      have hn2:nsF q 5 1=nsF q (6-i) i:=by rcases hn with e|e;exact absurd e h0;exact e
      rw[hnx]at hn2;simp only[push_cast,seval,-Nat.reducePow,spaV,j6,j8,j22,j23,h',hpk,h0'];refine aAa (t189 h189 (aGw i) (aXn i h)) (by simp only[push_cast,seval,-Nat.reducePow]) (by simp only[push_cast,seval,-Nat.reducePow]) ?_;by_cases e:lowL q=lowL (aGw i)
      .rw[if_pos e]at hn2;have hn3:¬nsF q 5 1=0:=by omega
       rw[<-e,if_neg hn3,hn2];simp only[push_cast,seval,-Nat.reducePow,spaV,j6,j8,j22,j23,view]
      .rw[if_neg e]at hn2;simp only[push_cast,seval,-Nat.reducePow,spaV,j6,j8,j22,j23,e];exact⟨by omega,6-(i+1),by omega,i+1,by omega,rfl,Or.inr hn2,by simp⟩
    .have h':¬((i:Nat):Int)<6:=by omega
     obtain rfl:i=6:=by omega
     have hn2:nsF q 5 1=0:=by rcases hn with e|e;omega;exact e
     simp only[push_cast,seval,-Nat.reducePow,j6,j8,j22,j23,h',hn2,view]
def ttV(sp:Int)(s:List UInt8):V:=.agg [.int .i64 sp,.str s]
theorem aHc{l:List (List UInt8)}{i:Nat}(h:i<l.length):(l.map V.str).getD i .junk=.str (l.getD i []):=by simp[zU,h]
theorem aA1(l:List (List UInt8)):V.imms (l.map V.str)=true:=aA8 _ _ λt=>rfl
theorem aRt{α:Type}(f:α->Bool)(d:α){l:List α}{i:Nat}(h:i<l.length):(l.drop i).all f=(f (l.getD i d)&&(l.drop (i+1)).all f):=by
 have e1:l.getD i d=l[i]:=by simp[zU,h]
 rw[zT h,e1];rfl
theorem aFu:∀s:List UInt8,(aAi s).length<=s.length+1
 | []=>by simp[aAi]
 | x::r=>by
   have ih:=aFu r;simp only[aAi];split
   .simp;omega
   .simp;omega
theorem aY9(s:List UInt8):∃x y,aM9 s=.tup [x,.str y,.bool (!decide (aF7 s=0))]∧x=.int .i64 (aF7 s):=by
 unfold aM9 aF7;cases colF s with
 | none=>exact⟨_,_,rfl,rfl⟩
 | some i =>
   simp only;by_cases h:nsF (unbl (s.take i)) 5 1=0
   .have e:decide (nsF (unbl (s.take i)) 5 1=0)=true:=decide_eq_true h;rw[if_pos h,e];refine⟨_,_,rfl,?_⟩;rw[h];rfl
   .have e:decide (nsF (unbl (s.take i)) 5 1=0)=false:=decide_eq_false h;rw[if_neg h,e];exact⟨_,_,rfl,rfl⟩
theorem t185(hf:bFi P F T)(C:TitC P F)(h187:aZc P F T)(h188:bA5 P F T)(h189:aUk P F T)(h190:aVx P F T)(sp:Int)(s:List UInt8)(hs:s.length<=100000):PTr P (F 185) [ttV sp s] (.bool (aBn sp s)):=by
 refine ptrC [] hf (by simp) rfl ?_;by_cases a1:sp<0
 .have d1:¬0<=sp:=by omega
  simp only[c185,ttV,push_cast,seval,-Nat.reducePow,a1,view,aBn,d1,zj]
 by_cases a2:6<=sp
 .have d2:¬sp<6:=by omega
  simp only[c185,ttV,push_cast,seval,-Nat.reducePow,a1,a2,view,aBn,d2,zj,ya]
 by_cases a3:s.length<1
 .have d3:¬1<=s.length:=by omega
  have a3':((s.length:Nat):Int)<1:=by omega
  simp only[c185,ttV,push_cast,seval,-Nat.reducePow,a1,a2,a3',view,aBn,d3,zj,ya]
 have a3':¬((s.length:Nat):Int)<1:=by omega
 by_cases a4:100<s.length
 .have d4:¬s.length<=100:=by omega
  have a4':(100:Int)<((s.length:Nat):Int):=by omega
  simp only[c185,ttV,push_cast,seval,-Nat.reducePow,a1,a2,a3',a4',view,aBn,d4,zj,ya]
 have a4':¬(100:Int)<((s.length:Nat):Int):=by omega
 have e0:aBn sp s=(aDp false s&&(aAi s).all aGn&&!aHq s&&(!decide (sp=0)||decide (aF7 s=0))):=by
  have d1:0<=sp:=by omega
  have d2:sp<6:=by omega
  have d3:1<=s.length:=by omega
  have d4:s.length<=100:=by omega
  simp[aBn,d1,d2,d3,d4]
 rw[e0];simp only[c185,ttV,push_cast,seval,-Nat.reducePow,a1,a2,a3',a4'];refine aAa (t187 h187 C s hs) (by simp only[push_cast,seval,-Nat.reducePow]) (by simp only[push_cast,seval,-Nat.reducePow]) ?_;cases hcl:aDp false s with
 | false=>simp only[push_cast,seval,-Nat.reducePow,view,zj]
 | true =>
   simp only[push_cast,seval,-Nat.reducePow];have him:=aA1 (aAi s);have hln:((aAi s).map V.str).length=(aAi s).length:=zc ..;refine aAa (C.split s hs) (by simp only[push_cast,seval,-Nat.reducePow]) (by simp only[push_cast,seval,-Nat.reducePow,him]) ?_;simp only[push_cast,seval,-Nat.reducePow,hln];refine aAe (λm s1=>∃i,i<=(aAi s).length∧m=(aAi s).length-i∧(aAi s).all aGn=((aAi s).drop i).all aGn∧s1.env 1=.ptr 1 0∧s1.env 3=.str s∧s1.env 35=.lst 1 ((aAi s).map V.str)∧s1.env 36=.int .i64 (aAi s).length∧s1.env 37=.int .i64 i∧s1.L 1=some (.box (T 17) [.int .i64 sp,.str s])) (aAi s).length ⟨0,?_⟩ λm s1 hJ=>?_
   .simp only[push_cast,seval,-Nat.reducePow];rfl
   .obtain⟨i,hi,rfl,hn,j1,j3,j35,j36,j37,jL⟩:=hJ;by_cases h:i<(aAi s).length
    .have h':((i:Nat):Int)<(((aAi s).length:Nat):Int):=by omega
     have hg:=aHc h;have hpn:=aFu s;rw[aRt aGn [] h]at hn;obtain⟨p,hp⟩:∃p,(aAi s).getD i []=p:=⟨_,rfl⟩;have hpl:p.length<=s.length:=by
      have:p∈aAi s:=by rw[<-hp];simp[zU,h]
      exact aDw p this
     rw[hp]at hg hn;by_cases b1:p=[]
     .have hgo:aGn p=false:=by rw[b1];rfl
      rw[hgo,zj]at hn;simp only[push_cast,seval,-Nat.reducePow,j1,j3,j35,j36,j37,jL,h',hln,hg,b1,view,hn,zj];exact h
     .have b1p:0<p.length:=xF.2 b1;obtain⟨c,hc⟩:∃c,p.getD 0 0=c:=⟨_,rfl⟩;obtain⟨d,hd⟩:∃d,p.getD (p.length-1) 0=d:=⟨_,rfl⟩;have hd2:(((p.length:Nat):Int)-1).toNat=p.length-1:=by omega
      have hgo:aGn p=(!decide (c=32)&&!decide (d=32)):=by simp only[aGn,b1,hc,hd,decide_false,zQ,yA]
      by_cases b2:c.toNat=32
      .have b2':((c.toNat:Nat):Int)=32:=by omega
       rw[decide_eq_true ((eq32 c).2 b2),zJ,zj]at hgo;rw[hgo,zj]at hn;simp only[push_cast,seval,-Nat.reducePow,j1,j3,j35,j36,j37,jL,h',hln,hg,b1,hc,b2',view,hn,zj];exact⟨h,b1p⟩
      .have b2':¬((c.toNat:Nat):Int)=32:=by omega
       rw[decide_eq_false (λe=>b2 ((eq32 c).1 e)),zQ,yA]at hgo;by_cases b3:d.toNat=32
       .have b3':((d.toNat:Nat):Int)=32:=by omega
        rw[decide_eq_true ((eq32 d).2 b3),zJ]at hgo;rw[hgo,zj]at hn;simp only[push_cast,seval,-Nat.reducePow,j1,j3,j35,j36,j37,jL,h',hln,hg,b1,hc,b2',hd2,hd,b3',view,hn,zj];exact⟨h,b1p,⟨by omega,by omega⟩,by omega,by omega⟩
       .have b3':¬((d.toNat:Nat):Int)=32:=by omega
        rw[decide_eq_false (λe=>b3 ((eq32 d).1 e)),zQ]at hgo;rw[hgo,yA]at hn;simp only[push_cast,seval,-Nat.reducePow,j1,j3,j35,j36,j37,jL,h',hln,hg,b1,hc,b2',hd2,hd,b3'];exact⟨h,b1p,⟨by omega,by omega⟩,by omega,by omega,⟨by omega,by omega⟩,(aAi s).length-(i+1),by omega,i+1,by omega,rfl,hn,by simp⟩
    .have h':¬((i:Nat):Int)<(((aAi s).length:Nat):Int):=by omega
     obtain rfl:i=(aAi s).length:=by omega
     simp only[xJ,xU]at hn;rw[hn];have a3p:0<s.length:=by omega
     obtain⟨c,hc⟩:∃c,s.getD 0 0=c:=⟨_,rfl⟩;have hhd:aHq s=(decide (c.toNat=58)||(decide (97<=c.toNat)&&decide (c.toNat<=122))):=by rw[aHq,hc]
     by_cases b1:c.toNat=58
     .have b1':((c.toNat:Nat):Int)=58:=by omega
      have hh:aHq s=true:=by rw[hhd,decide_eq_true b1];rfl
      simp only[push_cast,seval,-Nat.reducePow,j1,j3,j35,j36,j37,jL,h',hc,b1',hh,view,zJ,ya,zj];exact a3p
     .have b1':¬((c.toNat:Nat):Int)=58:=by omega
      by_cases b2:97<=c.toNat∧c.toNat<=122
      .have b2':(97:Int)<=((c.toNat:Nat):Int):=by omega
       have b3':((c.toNat:Nat):Int)<=122:=by omega
       have hh:aHq s=true:=by rw[hhd,decide_eq_true b2.1,decide_eq_true b2.2,xz,xx]
       simp only[push_cast,seval,-Nat.reducePow,j1,j3,j35,j36,j37,jL,h',hc,b1',b2',b3',hh,view,zJ,ya,zj];exact⟨a3p,a3p,a3p⟩
      .have hh:aHq s=false:=by
        rw[hhd,decide_eq_false b1,yq];by_cases e:97<=c.toNat
        .rw[decide_eq_false (λe2=>b2 ⟨e,e2⟩),ya]
        .rw[decide_eq_false e,zj]
       rw[hh];have hpre:=t188 h188 C h189 h190 s hs;obtain⟨x,y,hpv,rfl⟩:=aY9 s;rw[hpv]at hpre;by_cases e:97<=c.toNat
       .have b2':(97:Int)<=((c.toNat:Nat):Int):=by omega
        have b3':¬((c.toNat:Nat):Int)<=122:=by omega
        simp only[push_cast,seval,-Nat.reducePow,j1,j3,j35,j36,j37,jL,h',hc,b1',b2',b3'];refine⟨a3p,a3p,a3p,?_⟩;refine aAa hpre (by simp only[push_cast,seval,-Nat.reducePow]) (by simp only[push_cast,seval,-Nat.reducePow]) ?_;by_cases e5:sp=0
        .simp only[push_cast,seval,-Nat.reducePow,j1,j3,j35,j36,j37,jL,e5,view,zJ,zQ,yF,yq,yP]
        .simp only[push_cast,seval,-Nat.reducePow,j1,j3,j35,j36,j37,jL,e5,view,zJ,zQ,yF,yq,yP]
       .have b2':¬(97:Int)<=((c.toNat:Nat):Int):=by omega
        simp only[push_cast,seval,-Nat.reducePow,j1,j3,j35,j36,j37,jL,h',hc,b1',b2'];refine⟨a3p,a3p,?_⟩;refine aAa hpre (by simp only[push_cast,seval,-Nat.reducePow]) (by simp only[push_cast,seval,-Nat.reducePow]) ?_;by_cases e5:sp=0
        .simp only[push_cast,seval,-Nat.reducePow,j1,j3,j35,j36,j37,jL,e5,view,zJ,zQ,yF,yq,yP]
        .simp only[push_cast,seval,-Nat.reducePow,j1,j3,j35,j36,j37,jL,e5,view,zJ,zQ,yF,yq,yP]
def ixS(l:List (List UInt8))(x:List UInt8):Int:=match l.findIdx? (·==x)with|none=>-1|some i=>i
theorem t222(hf:bGt P F T)(l:List (List UInt8))(x:List UInt8)(hl:l.length<=2^60):PTr P (F 222) [.lst 1 (l.map .str),.str x] (.int .i64 (ixS l x)):=by
 refine ptrC [] hf (by simp) rfl ?_;have hln:(l.map V.str).length=l.length:=zc ..;simp only[c222,push_cast,seval,-Nat.reducePow,hln];refine aAe (λm s1=>∃i,i<=l.length∧m=l.length-i∧(∀k,k<i->l.getD k []≠x)∧s1.env 0=.lst 1 (l.map .str)∧s1.env 1=.str x∧s1.env 7=.int .i64 l.length∧s1.env 8=.int .i64 i) l.length ⟨0,?_⟩ λm s1 hJ=>?_
 .simp only[push_cast,seval,-Nat.reducePow];exact⟨rfl,λk hk=>absurd hk (Nat.not_lt_zero _)⟩
 .obtain⟨i,hi,rfl,hn,j0,j1,j7,j8⟩:=hJ;by_cases h:i<l.length
  .have h':((i:Nat):Int)<((l.length:Nat):Int):=by omega
   have hg:=aHc h;by_cases e:x=l.getD i []
   .have hix:ixS l x=i:=by
     have:l.findIdx? (·==x)=some i:=by
      rw[yB];refine⟨h,?_,λj hj=>?_⟩
      .simp[e,zU,h]
      .have:=hn j hj;have hjl:j<l.length:=by omega
       simpa[zU,hjl]using this
     rw[ixS,this]
    simp only[push_cast,seval,-Nat.reducePow,j0,j1,j7,j8,h',hln,hg,e,view];rw[<-e,hix];exact⟨h,rfl⟩
   .simp only[push_cast,seval,-Nat.reducePow,j0,j1,j7,j8,h',hln,hg,e];refine⟨h,⟨by omega,by omega⟩,l.length-(i+1),by omega,i+1,by omega,rfl,λk hk=>?_,by simp⟩;by_cases hki:k=i
    .rw[hki];exact λq=>e q.symm
    .exact hn k (by omega)
  .have h':¬((i:Nat):Int)<((l.length:Nat):Int):=by omega
   obtain rfl:i=l.length:=by omega
   have hix:ixS l x=-1:=by
    have:l.findIdx? (·==x)=none:=by rw[List.findIdx?_eq_none_iff];intro y hy;obtain⟨j,hj,rfl⟩:=List.mem_iff_getElem.1 hy;have:=hn j hj;simpa[zU,hj]using this
    rw[ixS,this]
   simp only[push_cast,seval,-Nat.reducePow,j0,j1,j7,j8,h',hix,view]
theorem aFf(l:List Rul):(ruV l).length=l.length:=zc ..
theorem aB5(l:List Rul):V.imms (ruV l)=true:=aA8 _ _ λq=>rfl
theorem t204(hf:aTi P F T)(c:UInt8):PTr P (F 204) [.int .u8 c.toNat] (.int .u8 (lowB c).toNat):=by
 refine ptrC [] hf (by simp) rfl ?_;rw[aQ2];by_cases a1:65<=c.toNat
 .have a1':(65:Int)<=((c.toNat:Nat):Int):=by omega
  by_cases a2:c.toNat<=90
  .have a2':((c.toNat:Nat):Int)<=90:=by omega
   rw[if_pos ⟨a1,a2⟩];simp only[c204,push_cast,seval,-Nat.reducePow,a1',a2',view];grind
  .have a2':¬((c.toNat:Nat):Int)<=90:=by omega
   rw[if_neg (by omega)];simp only[c204,push_cast,seval,-Nat.reducePow,a1',a2',view]
 .have a1':¬(65:Int)<=((c.toNat:Nat):Int):=by omega
  rw[if_neg (by omega)];simp only[c204,push_cast,seval,-Nat.reducePow,a1',view]
theorem aTn(a b:UInt8):((a.toNat:Nat):Int)=((b.toNat:Nat):Int)↔a=b:=⟨λh=>UInt8.toNat_inj.1 (by omega),λh=>by rw[h]⟩
theorem t203(hf:aYy P F T)(h204:aTi P F T)(a b:List UInt8)(ha:a.length<=100000)(hb:b.length<=100000):PTr P (F 203) [.str a,.str b] (.bool (decide (lowL a=lowL b))):=by
 refine ptrC [] hf (by simp) rfl ?_;by_cases hl:a.length=b.length
 rotate_left
 .have hl':¬((a.length:Nat):Int)=((b.length:Nat):Int):=by omega
  have hd:decide (lowL a=lowL b)=false:=decide_eq_false λe=>hl (by have:=congrArg List.length e;simpa[lowL]using this);simp only[c203,push_cast,seval,-Nat.reducePow,hl',hd,view]
 have hl':((a.length:Nat):Int)=((b.length:Nat):Int):=by omega
 simp only[c203,push_cast,seval,-Nat.reducePow,hl'];refine aAe (λm s1=>∃i,i<=a.length∧m=a.length-i∧decide (lowL a=lowL b)=decide (lowL (a.drop i)=lowL (b.drop i))∧s1.env 0=.str a∧s1.env 1=.str b∧s1.env 5=.int .i64 i) a.length ⟨0,?_⟩ λm s1 hJ=>?_
 .simp only[push_cast,seval,-Nat.reducePow];rfl
 .obtain⟨i,hi,rfl,hd,j0,j1,j5⟩:=hJ;by_cases h:i<a.length
  .have h2:i<b.length:=by omega
   have h':((i:Nat):Int)<((a.length:Nat):Int):=by omega
   obtain⟨x,hx⟩:∃c,a.getD i 0=c:=⟨_,rfl⟩;obtain⟨y,hy⟩:∃c,b.getD i 0=c:=⟨_,rfl⟩;have ea:a.drop i=x::a.drop (i+1):=by rw[<-hx,zT h];grind
   have eb:b.drop i=y::b.drop (i+1):=by rw[<-hy,zT h2];grind
   simp only[push_cast,seval,-Nat.reducePow,j0,j1,j5,h',hx,hy];refine⟨h,aAa (t204 h204 x) (by rfl) (by rfl) ?_⟩;simp only[push_cast,seval,-Nat.reducePow,j0,j1,j5,h',hx,hy];refine⟨h2,aAa (t204 h204 y) (by rfl) (by rfl) ?_⟩;by_cases e:lowB x=lowB y
   .have e':(((lowB x).toNat:Nat):Int)=(((lowB y).toNat:Nat):Int):=by rw[e]
    simp only[push_cast,seval,-Nat.reducePow,j0,j1,j5,e'];refine⟨⟨by omega,by omega⟩,a.length-(i+1),by omega,i+1,by omega,rfl,?_,by simp⟩;rw[hd,ea,eb];simp[lowL,e]
   .have e':¬(((lowB x).toNat:Nat):Int)=(((lowB y).toNat:Nat):Int):=λq=>e ((aTn _ _).1 q);simp only[push_cast,seval,-Nat.reducePow,j0,j1,j5,e',view];rw[hd,ea,eb];simp[lowL,e]
  .have h':¬((i:Nat):Int)<((a.length:Nat):Int):=by omega
   have ea:a.drop i=[]:=z8 (by omega);have eb:b.drop i=[]:=z8 (by omega);rw[ea,eb]at hd;simp only[push_cast,seval,-Nat.reducePow,j0,j1,j5,h',view,hd]
theorem t205(hf:aT1 P F T)(n:Nat)(hn:n<6):PTr P (F 205) [.int .i64 n] (.str (aGw n)):=by
 refine ptrC [] hf (by simp) rfl ?_
 match n,hn with
 | 0,_=>simp only[c205,push_cast,seval,-Nat.reducePow,view];rfl
 | 1,_=>simp only[c205,push_cast,seval,-Nat.reducePow,view];rfl
 | 2,_=>simp only[c205,push_cast,seval,-Nat.reducePow,view];rfl
 | 3,_=>simp only[c205,push_cast,seval,-Nat.reducePow,view];rfl
 | 4,_=>simp only[c205,push_cast,seval,-Nat.reducePow,view];rfl
 | 5,_=>simp only[c205,push_cast,seval,-Nat.reducePow,view];rfl
def aNb(s:List UInt8):V:=match colF s with
 | none=>.tup [.int .i64 0,.int .i64 0]
 | some i=>if nsF (unbl (s.take i)) 5 1=0 then .tup [.int .i64 0,.int .i64 0]else .tup [.int .i64 (nsF (unbl (s.take i)) 5 1),.int .i64 i]
theorem aZ2(s:List UInt8):∃y,aNb s=.tup [.int .i64 (aF7 s),.int .i64 y]:=by
 unfold aNb aF7;grind
theorem t202(hf:bBc P F T)(h102:aQd P F T)(h203:aYy P F T)(h204:aTi P F T)(h205:aT1 P F T)(s:List UInt8)(hs:s.length<=8000):PTr P (F 202) [.str s] (aNb s):=by
 have him:(aNb s).imm=true:=by
  unfold aNb;split
  .rfl
  .split<;>rfl
 refine ptrC [] hf (by simp) him ?_;have hix:=t102 h102 s [58] 0 (by omega) (by omega) (by simp) (by simp);rw[aLq]at hix;unfold aNb colF;cases hc:s.findIdx? (·==58)with
 | none=>simp only[yk,hc,Option.map_none]at hix;simp only[c202,push_cast,seval,-Nat.reducePow];refine aAa hix (by rfl) (by rfl) ?_;simp only[push_cast,seval,-Nat.reducePow,view]
 | some k =>
   simp only[yk,hc,Option.map_some,Nat.add_zero]at hix;obtain⟨hks,-⟩:=yB.1 hc;obtain⟨p,hp⟩:∃p,s.take k=p:=⟨_,rfl⟩;have hpl:p.length<=8000:=by grind
   obtain⟨q,hq⟩:∃q,unbl p=q:=⟨_,rfl⟩;have hql:q.length<=8000:=by rw[<-hq];have:=aLt p;omega
   simp only[hp,hq]at hix ⊢;simp only[c202,push_cast,seval,-Nat.reducePow];have hk0:¬((k:Nat):Int)<0:=by omega
   refine aAa hix (by rfl) (by rfl) ?_;simp only[push_cast,seval,-Nat.reducePow,hk0,hp];refine⟨by omega,aAu (λs1=>s1.env 4=.int .i64 k∧s1.env 5=.str q) ?_ λs1 hM=>?_⟩
   .rcases List.eq_nil_or_concat p with rfl|⟨u,x,rfl⟩
    .have:q=[]:=by rw[<-hq];rfl
     subst this;simp only[push_cast,seval,-Nat.reducePow]
     done
    .have hpl2:(u.concat x).length=u.length+1:=by simp
     have hpos:(0:Int)<((u.length:Nat):Int)+1:=by omega
     have hsb:((u.length:Nat):Int)+1-1=((u.length:Nat):Int):=by omega
     have hgx:(u.concat x).getD u.length 0=x:=by simp
     have htu:(u.concat x).take u.length=u:=by simp
     by_cases hx:x.toNat=32
     .have hx':((x.toNat:Nat):Int)=32:=by omega
      have:q=u:=by rw[<-hq,(eq32 x).2 hx];simp[unbl]
      subst this;simp only[push_cast,seval,-Nat.reducePow,hpl2,hpos,hsb,hgx,hx',htu];omega
     .have hx':¬((x.toNat:Nat):Int)=32:=by omega
      have hx2:¬x=32:=λe=>hx ((eq32 x).1 e);have:q=u.concat x:=by rw[<-hq];simp[unbl,hx2]
      subst this;simp only[push_cast,seval,-Nat.reducePow,hpl2,hpos,hsb,hgx,hx'];omega
   .obtain⟨j4,j5⟩:=hM;simp only[push_cast,seval,-Nat.reducePow,j4,j5];refine aAe (λm s1=>∃i,i<=6∧1<=i∧m=6-i∧nsF q 5 1=nsF q (6-i) i∧s1.env 4=.int .i64 k∧s1.env 5=.str q∧s1.env 6=.int .i64 i) 5 ⟨1,?_⟩ λm s1 hJ=>?_
    .simp only[push_cast,seval,-Nat.reducePow,j4,j5]
    .obtain⟨i,hi,hi1,rfl,hn2,j4,j5,j6⟩:=hJ;by_cases h:i<6
     .have h':((i:Nat):Int)<6:=by omega
      have hnx:=aRy q i h;rw[hnx]at hn2;simp only[push_cast,seval,-Nat.reducePow,j4,j5,j6,h'];refine aAa (t205 h205 i h) (by rfl) (by rfl) ?_;simp only[push_cast,seval,-Nat.reducePow,j4,j5,j6];refine aAa (t203 h203 h204 q (aGw i) (by omega) (aXn i h)) (by rfl) (by rfl) ?_;by_cases e:lowL q=lowL (aGw i)
      .rw[if_pos e]at hn2;have hn3:¬nsF q 5 1=0:=by omega
       rw[if_neg hn3,hn2];simp only[push_cast,seval,-Nat.reducePow,j4,j5,j6,e,view]
      .rw[if_neg e]at hn2;simp only[push_cast,seval,-Nat.reducePow,j4,j5,j6,e];exact⟨by omega,6-(i+1),by omega,i+1,by omega,by omega,rfl,hn2,by simp⟩
     .have h':¬((i:Nat):Int)<6:=by omega
      obtain rfl:i=6:=by omega
      have hn3:nsF q 5 1=0:=by rw[hn2];rfl
      simp only[push_cast,seval,-Nat.reducePow,j4,j5,j6,h',hn3,view]
theorem aWb{l:List (List UInt8)}{b:List UInt8}:((l++[b]).map V.str).getD l.length .junk=.str b:=by simp[zU]
theorem aZ3{l:List (List UInt8)}{b c:List UInt8}:((l++[b]).map V.str).set l.length (.str c)=(l++[c]).map V.str:=by
 rw[xo,wj _ _ (by simp)];simp
theorem t201(hf:bAu P F T)(s:List UInt8)(hs:s.length<=100000):PTr P (F 201) [.str s] (.lst 1 ((aAi s).map .str)):=by
 refine ptrC [] hf (by simp) (by simp[V.imm,aA1]) ?_;simp only[c201,push_cast,seval,-Nat.reducePow];refine aAe (λm s1=>∃i id,i<=s.length∧m=s.length-i∧s1.env 0=.str s∧s1.env 4=.int .i64 i∧s1.env 3=.own id 1 0 (aAi (s.take i)).length∧s1.L id=some (.vec (T 21) 1 ((aAi (s.take i)).map .str))∧id<s1.nx) s.length ⟨0,42,?_⟩ λm s1 hJ=>?_
 .simp only[push_cast,seval,-Nat.reducePow];exact⟨rfl,rfl,rfl⟩
 .obtain⟨i,id,hi,rfl,j0,j4,j3,jL,jn⟩:=hJ;have hpn:=aFu (s.take i);rw[yL]at hpn;by_cases h:i<s.length
  .have h':((i:Nat):Int)<((s.length:Nat):Int):=by omega
   obtain⟨c,hc⟩:∃c,s.getD i 0=c:=⟨_,rfl⟩;have hci:c=s[i]:=by rw[<-hc];simp[zU,h]
   have htk:s.take (i+1)=s.take i++[c]:=by rw[hci,<-xA (h:=h),xe]
   have hdt:(s.take (i+1)).drop i=[c]:=by rw[htk,wg (by rw[yL];omega)]
   by_cases b:c.toNat=47
   .have b':((c.toNat:Nat):Int)=47:=by omega
    have b3:c=47:=by rw[show c=UInt8.ofNat c.toNat by simp,b];rfl
    have hps:aAi (s.take (i+1))=aAi (s.take i)++[[]]:=by rw[htk,b3,aNa]
    have hlm:((aAi (s.take i)).map V.str).length=(aAi (s.take i)).length:=zc ..;have htl:zH (aAi (s.take i)).length ((aAi (s.take i)).map V.str)=(aAi (s.take i)).map V.str:=zm (by omega);simp only[push_cast,seval,-Nat.reducePow,j0,j4,j3,jL,h',hc,b',hlm,htl];refine⟨h,by omega,⟨by omega,by omega⟩,s.length-(i+1),by omega,i+1,s1.nx+92,by omega,rfl,by simp,by rw[hps];simp,?_,by omega⟩;rw[aAd,hps];simp
   .have b':¬((c.toNat:Nat):Int)=47:=by omega
    have b3:c≠47:=λe=>b (by rw[e];rfl);obtain⟨u,v,e1,e2⟩:=aJy b3 (s.take i);rw[e1]at j3 jL;have hul:(u++[v]).length=u.length+1:=by simp
    rw[hul]at j3;have hg:=aWb (l:=u) (b:=v);have hst:=aZ3 (l:=u) (b:=v) (c:=v++[c]);have hlm:((u++[v]).map V.str).length=u.length+1:=by simp
    rw[e1,List.length_append]at hpn;simp only[List.length_cons,List.length_nil]at hpn;have hsb:((u.length:Nat):Int)+1-1=((u.length:Nat):Int):=by omega
    have hti:((i:Nat):Int)+1=((i+1:Nat):Int):=by omega
    have htn:(((i:Nat):Int)+1).toNat=i+1:=by omega
    have hvl:v.length<=100000:=by
     have:v∈aAi (s.take i):=by rw[e1];simp
     have:=aDw v this;rw[yL]at this;omega
    simp only[push_cast,seval,-Nat.reducePow,j0,j4,j3,jL,h',hc,b',hlm,hsb,hg,hst,htn,hdt];have hrc:(V.str v).recell [V.str (v++[c])]=V.str (v++[c]):=rfl;rw[hrc,hst];refine⟨h,⟨by omega,by omega⟩,⟨by omega,by omega⟩,by omega,by omega,⟨by omega,by omega⟩,by omega,by omega,by omega,by omega,by omega,by omega,⟨by omega,by omega⟩,s.length-(i+1),by omega,i+1,id,by omega,rfl,by simp,?_,?_,by omega⟩
    .rw[htk,e2];simp
    .rw[aAd,htk,e2]
  .have h':¬((i:Nat):Int)<((s.length:Nat):Int):=by omega
   obtain rfl:i=s.length:=by omega
   rw[zz]at j3 jL;have hlm:((aAi s).map V.str).length=(aAi s).length:=zc ..;have htl:zH (aAi s).length ((aAi s).map V.str)=(aAi s).map V.str:=zm (by omega);simp only[push_cast,seval,-Nat.reducePow,j0,j4,j3,jL,h',hlm,htl];exact aWd jL (aA1 _) hlm.symm
theorem bL5(h102:aQd P F T)(c:UInt8):PTr P (F 102) [.str [60,62,91,93,123,125,124,35,95],.str [c],.int .i64 0] (.int .i64 (indexByte [60,62,91,93,123,125,124,35,95] c)):=by
 have hix:=t102 h102 [60,62,91,93,123,125,124,35,95] [c] 0 (by simp) (by omega) (by simp) (by simp);rw[aLq,yk]at hix;rw[aE5];cases hc:[60,62,91,93,123,125,124,35,95].findIdx? (·==c)with
 | none=>rw[hc]at hix;exact hix
 | some k=>rw[hc]at hix;exact hix
theorem t199(hf:bF7 P F T)(h102:aQd P F T)(h201:bAu P F T)(h202:bBc P F T)(h203:aYy P F T)(h204:aTi P F T)(h205:aT1 P F T)(sp:Int)(s:List UInt8)(hs:s.length<=100000):PTr P (F 199) [ttV sp s] (.bool (aBn sp s)):=by
 refine ptrC [] hf (by simp) rfl ?_;by_cases a1:sp<0
 .have d1:¬0<=sp:=by omega
  simp only[c199,ttV,push_cast,seval,-Nat.reducePow,a1,view,aBn,d1,zj]
 by_cases a2:6<=sp
 .have d2:¬sp<6:=by omega
  simp only[c199,ttV,push_cast,seval,-Nat.reducePow,a1,a2,view,aBn,d2,zj,ya]
 by_cases a3:s.length<1
 .have d3:¬1<=s.length:=by omega
  have a3':((s.length:Nat):Int)<1:=by omega
  simp only[c199,ttV,push_cast,seval,-Nat.reducePow,a1,a2,a3',view,aBn,d3,zj,ya]
 have a3':¬((s.length:Nat):Int)<1:=by omega
 by_cases a4:100<s.length
 .have d4:¬s.length<=100:=by omega
  have a4':(100:Int)<((s.length:Nat):Int):=by omega
  simp only[c199,ttV,push_cast,seval,-Nat.reducePow,a1,a2,a3',a4',view,aBn,d4,zj,ya]
 have a4':¬(100:Int)<((s.length:Nat):Int):=by omega
 have e0:aBn sp s=(aDp false s&&(aAi s).all aGn&&!aHq s&&(!decide (sp=0)||decide (aF7 s=0))):=by
  have d1:0<=sp:=by omega
  have d2:sp<6:=by omega
  have d3:1<=s.length:=by omega
  have d4:s.length<=100:=by omega
  simp[aBn,d1,d2,d3,d4]
 rw[e0];simp only[c199,ttV,push_cast,seval,-Nat.reducePow,a1,a2,a3',a4'];refine aAe (λm s1=>∃i,i<=s.length∧m=s.length-i∧aDp false s=aDp (pbAt s i) (s.drop i)∧s1.env 3=.str s∧s1.env 4=.int .i64 i∧s1.env 1=.ptr 1 0∧s1.L 1=some (.box (T 17) [.int .i64 sp,.str s])) s.length ⟨0,?_⟩ λm s1 hJ=>?_
 .simp only[push_cast,seval,-Nat.reducePow];exact⟨rfl,rfl⟩
 .obtain⟨i,hi,rfl,hcl,j3,j4,j1,jL⟩:=hJ;by_cases h:i<s.length
  .have h':((i:Nat):Int)<((s.length:Nat):Int):=by omega
   rw[aKw s h]at hcl;have hib:=bL5 h102 (s.getD i 0);have hhas:=aXj [60,62,91,93,123,125,124,35,95] (s.getD i 0);have hpb:pbAt s i=(decide (0<i)&&decide ((s.getD (i-1) 0).toNat=32)):=rfl;unfold badB at hcl;obtain⟨c,hc⟩:∃c,s.getD i 0=c:=⟨_,rfl⟩;rw[hc]at hib hhas hcl;have htn:(((i:Nat):Int)+1).toNat=i+1:=by omega
   have hdt:(s.take (i+1)).drop i=[c]:=by
    have e1:s.getD i 0=s[i]:=by simp[zU,h]
    rw[<-hc,e1,<-xA (h:=h),xe,wg (by rw[yL];omega)]
   by_cases b1:c.toNat<32
   .have b1':((c.toNat:Nat):Int)<32:=by omega
    simp only[push_cast,seval,-Nat.reducePow,j3,j4,j1,jL,h',hc,htn,hdt,b1',view,zj];rw[hcl];simp only[decide_eq_true b1,yF,zJ,zj];exact⟨h,trivial⟩
   .have b1':¬((c.toNat:Nat):Int)<32:=by omega
    by_cases b2:c.toNat=127
    .have b2':((c.toNat:Nat):Int)=127:=by omega
     simp only[push_cast,seval,-Nat.reducePow,j3,j4,j1,jL,h',hc,htn,hdt,b1',b2',view,zj];rw[hcl];simp only[decide_eq_true b2,yF,xx,zJ,zj];exact⟨h,h,trivial⟩
    .have b2':¬((c.toNat:Nat):Int)=127:=by omega
     simp only[push_cast,seval,-Nat.reducePow,j3,j4,j1,jL,h',hc,htn,hdt,b1',b2']
     repeat refine z7 (by omega) ?_
     refine aAa hib (by simp only[push_cast,seval,-Nat.reducePow]) (by simp only[push_cast,seval,-Nat.reducePow]) ?_;by_cases b3:0<=indexByte [60,62,91,93,123,125,124,35,95] c
     .have b3b:=hhas.1 b3;simp only[push_cast,seval,-Nat.reducePow,j3,j4,j1,jL,h',hc,htn,hdt,b3,view,zj];rw[hcl,b3b];simp only[xx,zJ,zj]
     .have b3b:[60,62,91,93,123,125,124,35,95].contains c=false:=by
       cases hb:[60,62,91,93,123,125,124,35,95].contains c with
       | true=>exact absurd (hhas.2 hb) b3
       | false=>rfl
      have d1:decide (c.toNat<32)=false:=decide_eq_false b1;have d2:decide (c.toNat=127)=false:=decide_eq_false b2;rw[b3b,d1,d2]at hcl;by_cases b4:c.toNat=32
      .have b4':((c.toNat:Nat):Int)=32:=by omega
       have d4:decide (c.toNat=32)=true:=decide_eq_true b4;rw[d4]at hcl;by_cases b5:0<i
       .have b5':(0:Int)<((i:Nat):Int):=by omega
        have hi1:((i:Nat):Int)-1=((i-1:Nat):Int):=by omega
        obtain⟨I,hI⟩:∃I,I=i-1:=⟨_,rfl⟩;rw[<-hI]at hi1 hpb;rw[decide_eq_true b5,yA]at hpb;by_cases b6:(s.getD I 0).toNat=32
        .have b6':(((s.getD I 0).toNat:Nat):Int)=32:=by omega
         rw[decide_eq_true b6]at hpb;rw[hpb]at hcl;simp only[push_cast,seval,-Nat.reducePow,j3,j4,j1,jL,h',hc,htn,hdt,b3,b4',b5',hi1,b6',view,zj]
         repeat refine z7 (by omega) ?_
         rw[hcl];rfl
        .have b6':¬(((s.getD I 0).toNat:Nat):Int)=32:=by omega
         rw[decide_eq_false b6]at hpb;rw[hpb]at hcl;simp only[push_cast,seval,-Nat.reducePow,j3,j4,j1,jL,h',hc,htn,hdt,b3,b4',b5',hi1,b6']
         repeat refine z7 (by omega) ?_
         refine⟨s.length-(i+1),by omega,i+1,by omega,rfl,?_,by simp⟩;rw[hcl];rfl
       .have b5':¬(0:Int)<((i:Nat):Int):=by omega
        rw[decide_eq_false b5,zj]at hpb;rw[hpb]at hcl;simp only[push_cast,seval,-Nat.reducePow,j3,j4,j1,jL,h',hc,htn,hdt,b3,b4',b5']
        repeat refine z7 (by omega) ?_
        refine⟨s.length-(i+1),by omega,i+1,by omega,rfl,?_,by simp⟩;rw[hcl];rfl
      .have b4':¬((c.toNat:Nat):Int)=32:=by omega
       have d4:decide (c.toNat=32)=false:=decide_eq_false b4;rw[d4]at hcl;simp only[push_cast,seval,-Nat.reducePow,j3,j4,j1,jL,h',hc,htn,hdt,b3,b4']
       repeat refine z7 (by omega) ?_
       refine⟨s.length-(i+1),by omega,i+1,by omega,rfl,?_,by simp⟩;rw[hcl];rfl
  .have h':¬((i:Nat):Int)<((s.length:Nat):Int):=by omega
   obtain rfl:i=s.length:=by omega
   rw[aN9]at hcl;rw[hcl];simp only[push_cast,seval,-Nat.reducePow,j3,j4,j1,jL,h'];have him:=aA1 (aAi s);have hln:((aAi s).map V.str).length=(aAi s).length:=zc ..;refine aAa (t201 h201 s hs) (by simp only[push_cast,seval,-Nat.reducePow]) (by simp only[push_cast,seval,-Nat.reducePow,him]) ?_;simp only[push_cast,seval,-Nat.reducePow,hln];refine aAe (λm s1=>∃i,i<=(aAi s).length∧m=(aAi s).length-i∧(aAi s).all aGn=((aAi s).drop i).all aGn∧s1.env 1=.ptr 1 0∧s1.env 3=.str s∧s1.env 5=.lst 1 ((aAi s).map V.str)∧s1.env 6=.int .i64 i∧s1.L 1=some (.box (T 17) [.int .i64 sp,.str s])) (aAi s).length ⟨0,?_⟩ λm s1 hJ=>?_
   .simp only[push_cast,seval,-Nat.reducePow,j3,j1,jL];rfl
   .obtain⟨i,hi,rfl,hn,j1,j3,j5,j6,jL⟩:=hJ;by_cases h:i<(aAi s).length
    .have h':((i:Nat):Int)<(((aAi s).length:Nat):Int):=by omega
     have hg:=aHc h;have hpn:=aFu s;rw[aRt aGn [] h]at hn;obtain⟨p,hp⟩:∃p,(aAi s).getD i []=p:=⟨_,rfl⟩;have hpl:p.length<=s.length:=by
      have:p∈aAi s:=by rw[<-hp];simp[zU,h]
      exact aDw p this
     rw[hp]at hg hn;by_cases b1:p=[]
     .have hgo:aGn p=false:=by rw[b1];rfl
      rw[hgo,zj]at hn;simp only[push_cast,seval,-Nat.reducePow,j1,j3,j5,j6,jL,h',hln,hg,b1,view,hn,zj];exact h
     .have b1p:0<p.length:=xF.2 b1;obtain⟨c,hc⟩:∃c,p.getD 0 0=c:=⟨_,rfl⟩;obtain⟨d,hd⟩:∃d,p.getD (p.length-1) 0=d:=⟨_,rfl⟩;have hd2:(((p.length:Nat):Int)-1).toNat=p.length-1:=by omega
      have hgo:aGn p=(!decide (c=32)&&!decide (d=32)):=by simp only[aGn,b1,hc,hd,decide_false,zQ,yA]
      by_cases b2:c.toNat=32
      .have b2':((c.toNat:Nat):Int)=32:=by omega
       rw[decide_eq_true ((eq32 c).2 b2),zJ,zj]at hgo;rw[hgo,zj]at hn;simp only[push_cast,seval,-Nat.reducePow,j1,j3,j5,j6,jL,h',hln,hg,b1,hc,b2',view,hn,zj];exact⟨h,h,b1p⟩
      .have b2':¬((c.toNat:Nat):Int)=32:=by omega
       rw[decide_eq_false (λe=>b2 ((eq32 c).1 e)),zQ,yA]at hgo;by_cases b3:d.toNat=32
       .have b3':((d.toNat:Nat):Int)=32:=by omega
        rw[decide_eq_true ((eq32 d).2 b3),zJ]at hgo;rw[hgo,zj]at hn;simp only[push_cast,seval,-Nat.reducePow,j1,j3,j5,j6,jL,h',hln,hg,b1,hc,b2',hd2,hd,b3',view,hn,zj];exact⟨h,h,b1p,h,h,by omega,by omega,by omega⟩
       .have b3':¬((d.toNat:Nat):Int)=32:=by omega
        rw[decide_eq_false (λe=>b3 ((eq32 d).1 e)),zQ]at hgo;rw[hgo,yA]at hn;simp only[push_cast,seval,-Nat.reducePow,j1,j3,j5,j6,jL,h',hln,hg,b1,hc,b2',hd2,hd,b3'];exact⟨h,h,b1p,h,h,by omega,by omega,by omega,⟨by omega,by omega⟩,(aAi s).length-(i+1),by omega,i+1,by omega,rfl,hn,by simp⟩
    .have h':¬((i:Nat):Int)<(((aAi s).length:Nat):Int):=by omega
     obtain rfl:i=(aAi s).length:=by omega
     simp only[xJ,xU]at hn;rw[hn];have a3p:0<s.length:=by omega
     obtain⟨c,hc⟩:∃c,s.getD 0 0=c:=⟨_,rfl⟩;have hhd:aHq s=(decide (c.toNat=58)||(decide (97<=c.toNat)&&decide (c.toNat<=122))):=by rw[aHq,hc]
     by_cases b1:c.toNat=58
     .have b1':((c.toNat:Nat):Int)=58:=by omega
      have hh:aHq s=true:=by rw[hhd,decide_eq_true b1];rfl
      simp only[push_cast,seval,-Nat.reducePow,j1,j3,j5,j6,jL,h',hln,hc,b1',hh,view,zJ,ya,zj]
      (repeat' apply z7)<;>first|exact a3p|trivial
     .have b1':¬((c.toNat:Nat):Int)=58:=by omega
      by_cases b2:97<=c.toNat∧c.toNat<=122
      .have b2':(97:Int)<=((c.toNat:Nat):Int):=by omega
       have b3':((c.toNat:Nat):Int)<=122:=by omega
       have hh:aHq s=true:=by rw[hhd,decide_eq_true b2.1,decide_eq_true b2.2,xz,xx]
       simp only[push_cast,seval,-Nat.reducePow,j1,j3,j5,j6,jL,h',hln,hc,b1',b2',b3',hh,view,zJ,ya,zj]
       (repeat' apply z7)<;>first|exact a3p|trivial
      .have hh:aHq s=false:=by
        rw[hhd,decide_eq_false b1,yq];by_cases e:97<=c.toNat
        .rw[decide_eq_false (λe2=>b2 ⟨e,e2⟩),ya]
        .rw[decide_eq_false e,zj]
       rw[hh];have hpre:=t202 h202 h102 h203 h204 h205 s (by omega);obtain⟨y,hpv⟩:=aZ2 s;rw[hpv]at hpre;by_cases e:97<=c.toNat
       .have b2':(97:Int)<=((c.toNat:Nat):Int):=by omega
        have b3':¬((c.toNat:Nat):Int)<=122:=by omega
        simp only[push_cast,seval,-Nat.reducePow,j1,j3,j5,j6,jL,h',hln,hc,b1',b2',b3']
        repeat refine z7 a3p ?_
        refine aAa hpre (by simp only[push_cast,seval,-Nat.reducePow]) (by simp only[push_cast,seval,-Nat.reducePow]) ?_;by_cases e5:sp=0
        .simp only[push_cast,seval,-Nat.reducePow,j1,j3,j5,j6,jL,e5,view,zJ,zQ,yF,yq,yP];rw[show decide (((aF7 s:Nat):Int)=0)=decide (aF7 s=0)from decide_eq_decide.2 (by omega)]
        .simp only[push_cast,seval,-Nat.reducePow,j1,j3,j5,j6,jL,e5,view,zJ,zQ,yF,yq,yP]
       .have b2':¬(97:Int)<=((c.toNat:Nat):Int):=by omega
        simp only[push_cast,seval,-Nat.reducePow,j1,j3,j5,j6,jL,h',hln,hc,b1',b2']
        repeat refine z7 a3p ?_
        refine aAa hpre (by simp only[push_cast,seval,-Nat.reducePow]) (by simp only[push_cast,seval,-Nat.reducePow]) ?_;by_cases e5:sp=0
        .simp only[push_cast,seval,-Nat.reducePow,j1,j3,j5,j6,jL,e5,view,zJ,zQ,yF,yq,yP];rw[show decide (((aF7 s:Nat):Int)=0)=decide (aF7 s=0)from decide_eq_decide.2 (by omega)]
        .simp only[push_cast,seval,-Nat.reducePow,j1,j3,j5,j6,jL,e5,view,zJ,zQ,yF,yq,yP]
end Go.Ab
