import Derived.Test.YtikmbicdjpkipaaGreatDoorAbC1
import Derived.Test.YtikmbicdjpkipaaGreatDoorAbZ1
import Derived.Test.YtikmbicdjpkipaaGreatDoorAbR2
open Bool renaming true_and->zy,false_and->zi,and_false->zT,not_false->zW,not_true->zN,and_true->xH,or_true->xF,false_or->yw,true_or->yM,not_not->yX
open List renaming drop_eq_getElem_cons->zH,length_take->yR,take_of_length_le->zj,getD->zI,map_append->yZ,set_append_right->xE,take_length->zu,drop_length->yx,append_nil->yh,take->zA,length_map->zb,length_pos_iff->xM,all_nil->wb,length_append->yl,length_set->xU,length_reverse->wG,take_concat_get->xn,concat_eq_append->yT,findIdx?_eq_none_iff->zY,contains_iff_mem->yj,findIdx?_eq_some_iff_getElem->ym,drop_of_length_le->zZ,drop_zero->yn,drop_left'->wq
open And renaming intro->z8
set_option linter.unusedSimpArgs false
set_option linter.unusedVariables false
namespace Go.Ab
variable {P:Program} {F T:Nat->Nat}
open Go.Lib
theorem t187(hf:aYs P F T)(C:TitC P F)(s:List UInt8)(hs:s.length<=100000):PTr P (F 187) [.str s] (.bool (aD7 false s)):=by
 refine ptrC [] hf (by simp) rfl ?_;simp only[c187,push_cast,seval,-Nat.reducePow];refine aAd (λm s1=>∃i,i<=s.length∧m=s.length-i∧aD7 false s=aD7 (pbAt s i) (s.drop i)∧s1.env 0=.str s∧s1.env 3=.int .i64 i) s.length ⟨0,?_⟩ λm s1 hJ=>?_
 .simp only[push_cast,seval,-Nat.reducePow];exact⟨rfl,rfl⟩
 .obtain⟨i,hi,rfl,hcl,j0,j3⟩:=hJ;by_cases h:i<s.length
  .have h':((i:Nat):Int)<((s.length:Nat):Int):=by omega
   rw[aMa s h]at hcl;have hib:=C.ib [60,62,91,93,123,125,124,35,95] (s.getD i 0);have hhas:=bBv [60,62,91,93,123,125,124,35,95] (s.getD i 0);have hpb:pbAt s i=(decide (0<i)&&decide ((s.getD (i-1) 0).toNat=32)):=rfl;unfold badB at hcl;obtain⟨c,hc⟩:∃c,s.getD i 0=c:=⟨_,rfl⟩;rw[hc]at hib hhas hcl;by_cases b1:c.toNat<32
   .have b1':((c.toNat:Nat):Int)<32:=by omega
    simp only[push_cast,seval,-Nat.reducePow,j0,j3,h',hc,b1',view];refine⟨h,?_⟩;rw[hcl];simp[b1]
   .have b1':¬((c.toNat:Nat):Int)<32:=by omega
    by_cases b2:c.toNat=127
    .have b2':((c.toNat:Nat):Int)=127:=by omega
     simp only[push_cast,seval,-Nat.reducePow,j0,j3,h',hc,b1',b2',view];refine⟨h,?_⟩;rw[hcl];simp[b2]
    .have b2':¬((c.toNat:Nat):Int)=127:=by omega
     simp only[push_cast,seval,-Nat.reducePow,j0,j3,h',hc,b1',b2'];refine⟨h,?_⟩;refine aAa hib (by simp only[push_cast,seval,-Nat.reducePow]) (by simp only[push_cast,seval,-Nat.reducePow]) ?_;by_cases b3:0<=indexByte [60,62,91,93,123,125,124,35,95] c
     .have b3b:=hhas.1 b3;simp only[push_cast,seval,-Nat.reducePow,j0,j3,h',hc,b3,view];rw[hcl,b3b];simp
     .have b3b:[60,62,91,93,123,125,124,35,95].contains c=false:=by
       cases hb:[60,62,91,93,123,125,124,35,95].contains c with
       | true=>exact absurd (hhas.2 hb) b3
       | false=>rfl
      have d1:decide (c.toNat<32)=false:=decide_eq_false b1;have d2:decide (c.toNat=127)=false:=decide_eq_false b2;rw[b3b,d1,d2]at hcl;by_cases b4:c.toNat=32
      .have b4':((c.toNat:Nat):Int)=32:=by omega
       have d4:decide (c.toNat=32)=true:=decide_eq_true b4;rw[d4]at hcl;by_cases b5:0<i
       .have b5':(0:Int)<((i:Nat):Int):=by omega
        have hi1:((i:Nat):Int)-1=((i-1:Nat):Int):=by omega
        obtain⟨I,hI⟩:∃I,I=i-1:=⟨_,rfl⟩;rw[<-hI]at hi1 hpb;rw[decide_eq_true b5,zy]at hpb;by_cases b6:(s.getD I 0).toNat=32
        .have b6':(((s.getD I 0).toNat:Nat):Int)=32:=by omega
         rw[decide_eq_true b6]at hpb;rw[hpb]at hcl;simp only[push_cast,seval,-Nat.reducePow,j0,j3,h',hc,b3,b4',b5',hi1,b6',view];refine⟨by omega,by omega,?_⟩;rw[hcl];rfl
        .have b6':¬(((s.getD I 0).toNat:Nat):Int)=32:=by omega
         rw[decide_eq_false b6]at hpb;rw[hpb]at hcl;simp only[push_cast,seval,-Nat.reducePow,j0,j3,h',hc,b3,b4',b5',hi1,b6'];refine⟨by omega,by omega,by omega,s.length-(i+1),by omega,i+1,by omega,rfl,?_,by simp⟩;rw[hcl];rfl
       .have b5':¬(0:Int)<((i:Nat):Int):=by omega
        rw[decide_eq_false b5,zi]at hpb;rw[hpb]at hcl;simp only[push_cast,seval,-Nat.reducePow,j0,j3,h',hc,b3,b4',b5'];refine⟨by omega,s.length-(i+1),by omega,i+1,by omega,rfl,?_,by simp⟩;rw[hcl];rfl
      .have b4':¬((c.toNat:Nat):Int)=32:=by omega
       have d4:decide (c.toNat=32)=false:=decide_eq_false b4;rw[d4]at hcl;simp only[push_cast,seval,-Nat.reducePow,j0,j3,h',hc,b3,b4'];refine⟨by omega,s.length-(i+1),by omega,i+1,by omega,rfl,?_,by simp⟩;rw[hcl];rfl
  .have h':¬((i:Nat):Int)<((s.length:Nat):Int):=by omega
   obtain rfl:i=s.length:=by omega
   rw[aOt]at hcl;simp only[push_cast,seval,-Nat.reducePow,j0,j3,h',hcl,view]
theorem t189(hf:aU7 P F T)(s:List UInt8)(hs:s.length<=100000):PTr P (F 189) [.str s] (.str (lowL s)):=by
 refine ptrC [] hf (by simp) rfl ?_;simp only[c189,push_cast,seval,-Nat.reducePow];refine aAd (λm s1=>∃i,i<=s.length∧m=s.length-i∧s1.env 3=.own 36 1 0 s.length∧s1.env 8=.own 36 1 0 s.length∧s1.env 9=.int .i64 s.length∧s1.env 10=.int .i64 i∧s1.L 36=some (.vec (T 3) 1 (aAs (lowL (s.take i)++s.drop i)))) s.length ⟨0,?_⟩ λm s1 hJ=>?_
 .simp only[push_cast,seval,-Nat.reducePow];exact⟨rfl,rfl⟩
 .obtain⟨i,hi,rfl,j3,j8,j9,j10,jL⟩:=hJ;by_cases h:i<s.length
  .have h':((i:Nat):Int)<((s.length:Nat):Int):=by omega
   obtain⟨u,c,v,rfl,hu⟩:∃u c v,s=u++c::v∧u.length=i:=⟨s.take i,s[i],s.drop (i+1),by rw[<-zH h,List.take_append_drop],by rw[yR];omega⟩;subst hu;have e1:(u++c::v).take u.length=u:=by simp
   have e2:(u++c::v).drop u.length=c::v:=by simp
   have e3:(u++c::v).take (u.length+1)=u++[c]:=by rw[List.take_append];simp[zj]
   have e4:(u++c::v).drop (u.length+1)=v:=by simp[List.drop_append]
   rw[e1,e2]at jL;have hll:(lowL u).length=u.length:=by simp[lowL]
   have hbl:(lowL u++c::v).length=u.length+(v.length+1):=by simp[lowL]
   have hg:(aAs (lowL u++c::v)).getD u.length .junk=.int .u8 c.toNat:=by rw[<-hll];simp[aAs,zI]
   have hset:∀x:UInt8,(aAs (lowL u++c::v)).set u.length (.int .u8 x.toNat)=aAs (lowL u++x::v):=λx=>by
    have hl2:u.length=(aAs (lowL u)).length:=by simp[aAs,lowL]
    simp only[aAs,yZ,List.map_cons]at hl2 ⊢;rw[hl2,xE _ _ (Nat.le_refl _)];simp
   have hlow:=aS5 c;have hfin:∀x:UInt8,x=lowB c->lowL u++x::v=lowL (u++[c])++v:=λx hx=>by simp[lowL,hx]
   by_cases b1:65<=c.toNat∧c.toNat<=90
   .have b1':(65:Int)<=((c.toNat:Nat):Int):=by omega
    have b2':((c.toNat:Nat):Int)<=90:=by omega
    rw[if_pos b1]at hlow;have hs2:=hset (lowB c);have hadd:((c.toNat:Nat):Int)+32=(((lowB c).toNat:Nat):Int):=by omega
    simp only[push_cast,seval,-Nat.reducePow,j3,j8,j9,j10,jL,h',hg,b1',b2',hadd,hs2];have hrc:((V.int IntKind.u8 ((c.toNat:Nat):Int)).recell [V.int IntKind.u8 (((lowB c).toNat:Nat):Int)])=V.int .u8 (((lowB c).toNat:Nat):Int):=rfl;rw[hrc,hs2];refine⟨by rw[hbl];omega,by omega,by rw[hbl];omega,⟨by omega,by omega⟩,(u++c::v).length-(u.length+1),by omega,u.length+1,by omega,rfl,by simp,?_⟩;rw[e3,e4];rw[<-hfin _ rfl]
   .have hlc:lowB c=c:=by unfold lowB;rw[if_neg b1]
    by_cases b2:65<=c.toNat
    .have b1':(65:Int)<=((c.toNat:Nat):Int):=by omega
     have b2':¬((c.toNat:Nat):Int)<=90:=by omega
     simp only[push_cast,seval,-Nat.reducePow,j3,j8,j9,j10,jL,h',hg,b1',b2'];refine⟨by rw[hbl];omega,⟨by omega,by omega⟩,(u++c::v).length-(u.length+1),by omega,u.length+1,by omega,rfl,by simp,?_⟩;rw[e3,e4,<-hfin c hlc.symm]
    .have b1':¬(65:Int)<=((c.toNat:Nat):Int):=by omega
     simp only[push_cast,seval,-Nat.reducePow,j3,j8,j9,j10,jL,h',hg,b1'];refine⟨by rw[hbl];omega,⟨by omega,by omega⟩,(u++c::v).length-(u.length+1),by omega,u.length+1,by omega,rfl,by simp,?_⟩;rw[e3,e4,<-hfin c hlc.symm]
  .have h':¬((i:Nat):Int)<((s.length:Nat):Int):=by omega
   obtain rfl:i=s.length:=by omega
   simp only[zu,yx,yh]at jL;have hbl:(aAs (lowL s)).length=s.length:=by simp[aAs,lowL]
   have htk:zA s.length (aAs (lowL s))=aAs (lowL s):=zj (by omega);simp only[push_cast,seval,-Nat.reducePow,j3,j8,j9,j10,jL,h',htk];exact⟨by rw[<-hbl];simp[aAs],lowL s,rfl,rfl⟩
def spaV:V:=.agg [.str [],.str [84,97,108,107],.str [85,115,101,114],.str [84,101,109,112,108,97,116,101],.str [67,97,116,101,103,111,114,121],.str [80,114,111,106,101,99,116]]
theorem t190(hf:aUo P F T):PTr P (F 190) [] spaV:=by
 refine ptrC [] hf (by simp) rfl ?_;simp only[c190,push_cast,seval,-Nat.reducePow,view];rfl
def aOx(s:List UInt8):V:=match colF s with
 | none=>.tup [.int .i64 0,.str [],.bool false]
 | some i=>if nsF (unbl (s.take i)) 5 1=0 then .tup [.int .i64 0,.str [],.bool false]else .tup [.int .i64 (nsF (unbl (s.take i)) 5 1),.str (s.drop (i+1)),.bool true]
theorem aM2(s:List UInt8):(unbl s).length<=s.length:=by
 unfold unbl;split
 .simp
 .exact Nat.le_refl _
theorem aSy(p:List UInt8)(i:Nat)(h:i<6):nsF p (6-i) i=if lowL p=lowL (aHn i)then i else nsF p (6-(i+1)) (i+1):=by
 obtain⟨k,hk⟩:∃k,6-i=k+1:=⟨5-i,by omega⟩;have:6-(i+1)=k:=by omega
 rw[hk,this,nsF]
theorem bN0(i:Nat)(h:i<6):pack false (((([.str [],.str [84,97,108,107],.str [85,115,101,114],.str [84,101,109,112,108,97,116,101],.str [67,97,116,101,103,111,114,121],.str [80,114,111,106,101,99,116]]:List V).drop (i*1)).take 1))=.str (aHn i):=by
 match i,h with
 | 0,_=>rfl
 | 1,_=>rfl
 | 2,_=>rfl
 | 3,_=>rfl
 | 4,_=>rfl
 | 5,_=>rfl
theorem aYw(i:Nat)(h:i<6):(aHn i).length<=100000:=by
 match i,h with
 | 0,_=>decide
 | 1,_=>decide
 | 2,_=>decide
 | 3,_=>decide
 | 4,_=>decide
 | 5,_=>decide
theorem t188(hf:bBr P F T)(C:TitC P F)(h189:aU7 P F T)(h190:aUo P F T)(s:List UInt8)(hs:s.length<=100000):PTr P (F 188) [.str s] (aOx s):=by
 have him:(aOx s).imm=true:=by
  unfold aOx;split
  .rfl
  .split<;>rfl
 refine ptrC [] hf (by simp) him ?_;have hcut:=C.cut s hs;unfold aOx;cases hc:colF s with
 | none=>rw[hc]at hcut;simp only[c188,push_cast,seval,-Nat.reducePow];refine aAa hcut (by simp only[push_cast,seval,-Nat.reducePow]) (by simp only[push_cast,seval,-Nat.reducePow]) ?_;simp only[push_cast,seval,-Nat.reducePow,view]
 | some k =>
   rw[hc]at hcut;obtain⟨p,hp⟩:∃p,s.take k=p:=⟨_,rfl⟩;have hpl:p.length<=100000:=by rw[<-hp,yR];omega
   obtain⟨q,hq⟩:∃q,unbl p=q:=⟨_,rfl⟩;have hql:q.length<=100000:=by rw[<-hq];have:=aM2 p;omega
   have hts:=C.tsuf p hpl;rw[hq]at hts;simp only[hp,hq]at hcut ⊢;simp only[c188,push_cast,seval,-Nat.reducePow];refine aAa hcut (by simp only[push_cast,seval,-Nat.reducePow]) (by simp only[push_cast,seval,-Nat.reducePow]) ?_;simp only[push_cast,seval,-Nat.reducePow];refine aAa hts (by simp only[push_cast,seval,-Nat.reducePow]) (by simp only[push_cast,seval,-Nat.reducePow]) ?_;refine aAa (t189 h189 q hql) (by simp only[push_cast,seval,-Nat.reducePow]) (by simp only[push_cast,seval,-Nat.reducePow]) ?_;refine aAa (t190 h190) (by simp only[push_cast,seval,-Nat.reducePow]) rfl ?_;refine aAd (λm s1=>∃i,i<=6∧m=6-i∧(i=0∨nsF q 5 1=nsF q (6-i) i)∧s1.env 6=.str (s.drop (k+1))∧s1.env 8=.str (lowL q)∧s1.env 22=spaV∧s1.env 23=.int .i64 i) 6 ⟨0,?_⟩ λm s1 hJ=>?_
   .simp only[push_cast,seval,-Nat.reducePow,spaV]
   .obtain⟨i,hi,rfl,hn,j6,j8,j22,j23⟩:=hJ;by_cases h:i<6
    .have h':((i:Nat):Int)<6:=by omega
     have hpk:=bN0 i h;have hnx:=aSy q i h;by_cases h0:i=0
     .have h0':((i:Nat):Int)=0:=by omega
      simp only[push_cast,seval,-Nat.reducePow,spaV,j6,j8,j22,j23,h',hpk,h0'];subst h0;exact⟨5,by omega,1,by omega,rfl,Or.inr rfl,rfl⟩
     .have h0':¬((i:Nat):Int)=0:=by omega
      have hn2:nsF q 5 1=nsF q (6-i) i:=by rcases hn with e|e;exact absurd e h0;exact e
      rw[hnx]at hn2;simp only[push_cast,seval,-Nat.reducePow,spaV,j6,j8,j22,j23,h',hpk,h0'];refine aAa (t189 h189 (aHn i) (aYw i h)) (by simp only[push_cast,seval,-Nat.reducePow]) (by simp only[push_cast,seval,-Nat.reducePow]) ?_;by_cases e:lowL q=lowL (aHn i)
      .rw[if_pos e]at hn2;have hn3:¬nsF q 5 1=0:=by omega
       rw[<-e,if_neg hn3,hn2];simp only[push_cast,seval,-Nat.reducePow,spaV,j6,j8,j22,j23,view]
      .rw[if_neg e]at hn2;simp only[push_cast,seval,-Nat.reducePow,spaV,j6,j8,j22,j23,e];exact⟨by omega,6-(i+1),by omega,i+1,by omega,rfl,Or.inr hn2,by simp⟩
    .have h':¬((i:Nat):Int)<6:=by omega
     obtain rfl:i=6:=by omega
     have hn2:nsF q 5 1=0:=by rcases hn with e|e;omega;exact e
     simp only[push_cast,seval,-Nat.reducePow,j6,j8,j22,j23,h',hn2,view]
def ttV(sp:Int)(s:List UInt8):V:=.agg [.int .i64 sp,.str s]
theorem aEe{l:List (List UInt8)}{i:Nat}(h:i<l.length):(l.map V.str).getD i .junk=.str (l.getD i []):=by simp[zI,h]
theorem aAp(l:List (List UInt8)):V.imms (l.map V.str)=true:=aA2 _ _ λt=>rfl
theorem aS2{α:Type}(f:α->Bool)(d:α){l:List α}{i:Nat}(h:i<l.length):(l.drop i).all f=(f (l.getD i d)&&(l.drop (i+1)).all f):=by
 have e1:l.getD i d=l[i]:=by simp[zI,h]
 rw[zH h,e1];rfl
theorem aGb:∀s:List UInt8,(aAj s).length<=s.length+1
 | []=>by simp[aAj]
 | x::r=>by
   have ih:=aGb r;simp only[aAj];split
   .simp;omega
   .simp;omega
theorem bCn(s:List UInt8):∃x y,aOx s=.tup [x,.str y,.bool (!decide (aGl s=0))]∧x=.int .i64 (aGl s):=by
 unfold aOx aGl;cases colF s with
 | none=>exact⟨_,_,rfl,rfl⟩
 | some i =>
   simp only;by_cases h:nsF (unbl (s.take i)) 5 1=0
   .have e:decide (nsF (unbl (s.take i)) 5 1=0)=true:=decide_eq_true h;rw[if_pos h,e];refine⟨_,_,rfl,?_⟩;rw[h];rfl
   .have e:decide (nsF (unbl (s.take i)) 5 1=0)=false:=decide_eq_false h;rw[if_neg h,e];exact⟨_,_,rfl,rfl⟩
theorem t185(hf:bFk P F T)(C:TitC P F)(h187:aYs P F T)(h188:bBr P F T)(h189:aU7 P F T)(h190:aUo P F T)(sp:Int)(s:List UInt8)(hs:100<s.length∨s.length<=100000):PTr P (F 185) [ttV sp s] (.bool (aBb sp s)):=by
 refine ptrC [] hf (by simp) rfl ?_;by_cases a1:sp<0
 .have d1:¬0<=sp:=by omega
  simp only[c185,ttV,push_cast,seval,-Nat.reducePow,a1,view,aBb,d1,zi]
 by_cases a2:6<=sp
 .have d2:¬sp<6:=by omega
  simp only[c185,ttV,push_cast,seval,-Nat.reducePow,a1,a2,view,aBb,d2,zi,zT]
 by_cases a3:s.length<1
 .have d3:¬1<=s.length:=by omega
  have a3':((s.length:Nat):Int)<1:=by omega
  simp only[c185,ttV,push_cast,seval,-Nat.reducePow,a1,a2,a3',view,aBb,d3,zi,zT]
 have a3':¬((s.length:Nat):Int)<1:=by omega
 by_cases a4:100<s.length
 .have d4:¬s.length<=100:=by omega
  have a4':(100:Int)<((s.length:Nat):Int):=by omega
  simp only[c185,ttV,push_cast,seval,-Nat.reducePow,a1,a2,a3',a4',view,aBb,d4,zi,zT]
 have a4':¬(100:Int)<((s.length:Nat):Int):=by omega
 have hs:s.length<=100000:=by omega
 have e0:aBb sp s=(aD7 false s&&(aAj s).all aG7&&!aIn s&&(!decide (sp=0)||decide (aGl s=0))):=by
  have d1:0<=sp:=by omega
  have d2:sp<6:=by omega
  have d3:1<=s.length:=by omega
  have d4:s.length<=100:=by omega
  simp[aBb,d1,d2,d3,d4]
 rw[e0];simp only[c185,ttV,push_cast,seval,-Nat.reducePow,a1,a2,a3',a4'];refine aAa (t187 h187 C s hs) (by simp only[push_cast,seval,-Nat.reducePow]) (by simp only[push_cast,seval,-Nat.reducePow]) ?_;cases hcl:aD7 false s with
 | false=>simp only[push_cast,seval,-Nat.reducePow,view,zi]
 | true =>
   simp only[push_cast,seval,-Nat.reducePow];have him:=aAp (aAj s);have hln:((aAj s).map V.str).length=(aAj s).length:=zb ..;refine aAa (C.split s hs) (by simp only[push_cast,seval,-Nat.reducePow]) (by simp only[push_cast,seval,-Nat.reducePow,him]) ?_;simp only[push_cast,seval,-Nat.reducePow,hln];refine aAd (λm s1=>∃i,i<=(aAj s).length∧m=(aAj s).length-i∧(aAj s).all aG7=((aAj s).drop i).all aG7∧s1.env 1=.ptr 1 0∧s1.env 3=.str s∧s1.env 35=.lst 1 ((aAj s).map V.str)∧s1.env 36=.int .i64 (aAj s).length∧s1.env 37=.int .i64 i∧s1.L 1=some (.box (T 17) [.int .i64 sp,.str s])) (aAj s).length ⟨0,?_⟩ λm s1 hJ=>?_
   .simp only[push_cast,seval,-Nat.reducePow];rfl
   .obtain⟨i,hi,rfl,hn,j1,j3,j35,j36,j37,jL⟩:=hJ;by_cases h:i<(aAj s).length
    .have h':((i:Nat):Int)<(((aAj s).length:Nat):Int):=by omega
     have hg:=aEe h;have hpn:=aGb s;rw[aS2 aG7 [] h]at hn;obtain⟨p,hp⟩:∃p,(aAj s).getD i []=p:=⟨_,rfl⟩;have hpl:p.length<=s.length:=by
      have:p∈aAj s:=by rw[<-hp];simp[zI,h]
      exact aD6 p this
     rw[hp]at hg hn;by_cases b1:p=[]
     .have hgo:aG7 p=false:=by rw[b1];rfl
      rw[hgo,zi]at hn;simp only[push_cast,seval,-Nat.reducePow,j1,j3,j35,j36,j37,jL,h',hln,hg,b1,view,hn,zi];exact h
     .have b1p:0<p.length:=xM.2 b1;obtain⟨c,hc⟩:∃c,p.getD 0 0=c:=⟨_,rfl⟩;obtain⟨d,hd⟩:∃d,p.getD (p.length-1) 0=d:=⟨_,rfl⟩;have hd2:(((p.length:Nat):Int)-1).toNat=p.length-1:=by omega
      have hgo:aG7 p=(!decide (c=32)&&!decide (d=32)):=by simp only[aG7,b1,hc,hd,decide_false,zW,zy]
      by_cases b2:c.toNat=32
      .have b2':((c.toNat:Nat):Int)=32:=by omega
       rw[decide_eq_true ((eq32 c).2 b2),zN,zi]at hgo;rw[hgo,zi]at hn;simp only[push_cast,seval,-Nat.reducePow,j1,j3,j35,j36,j37,jL,h',hln,hg,b1,hc,b2',view,hn,zi];exact⟨h,b1p⟩
      .have b2':¬((c.toNat:Nat):Int)=32:=by omega
       rw[decide_eq_false (λe=>b2 ((eq32 c).1 e)),zW,zy]at hgo;by_cases b3:d.toNat=32
       .have b3':((d.toNat:Nat):Int)=32:=by omega
        rw[decide_eq_true ((eq32 d).2 b3),zN]at hgo;rw[hgo,zi]at hn;simp only[push_cast,seval,-Nat.reducePow,j1,j3,j35,j36,j37,jL,h',hln,hg,b1,hc,b2',hd2,hd,b3',view,hn,zi];exact⟨h,b1p,⟨by omega,by omega⟩,by omega,by omega⟩
       .have b3':¬((d.toNat:Nat):Int)=32:=by omega
        rw[decide_eq_false (λe=>b3 ((eq32 d).1 e)),zW]at hgo;rw[hgo,zy]at hn;simp only[push_cast,seval,-Nat.reducePow,j1,j3,j35,j36,j37,jL,h',hln,hg,b1,hc,b2',hd2,hd,b3'];exact⟨h,b1p,⟨by omega,by omega⟩,by omega,by omega,⟨by omega,by omega⟩,(aAj s).length-(i+1),by omega,i+1,by omega,rfl,hn,by simp⟩
    .have h':¬((i:Nat):Int)<(((aAj s).length:Nat):Int):=by omega
     obtain rfl:i=(aAj s).length:=by omega
     simp only[yx,wb]at hn;rw[hn];have a3p:0<s.length:=by omega
     obtain⟨c,hc⟩:∃c,s.getD 0 0=c:=⟨_,rfl⟩;have hhd:aIn s=(decide (c.toNat=58)||(decide (97<=c.toNat)&&decide (c.toNat<=122))):=by rw[aIn,hc]
     by_cases b1:c.toNat=58
     .have b1':((c.toNat:Nat):Int)=58:=by omega
      have hh:aIn s=true:=by rw[hhd,decide_eq_true b1];rfl
      simp only[push_cast,seval,-Nat.reducePow,j1,j3,j35,j36,j37,jL,h',hc,b1',hh,view,zN,zT,zi];exact a3p
     .have b1':¬((c.toNat:Nat):Int)=58:=by omega
      by_cases b2:97<=c.toNat∧c.toNat<=122
      .have b2':(97:Int)<=((c.toNat:Nat):Int):=by omega
       have b3':((c.toNat:Nat):Int)<=122:=by omega
       have hh:aIn s=true:=by rw[hhd,decide_eq_true b2.1,decide_eq_true b2.2,xH,xF]
       simp only[push_cast,seval,-Nat.reducePow,j1,j3,j35,j36,j37,jL,h',hc,b1',b2',b3',hh,view,zN,zT,zi];exact⟨a3p,a3p,a3p⟩
      .have hh:aIn s=false:=by
        rw[hhd,decide_eq_false b1,yw];by_cases e:97<=c.toNat
        .rw[decide_eq_false (λe2=>b2 ⟨e,e2⟩),zT]
        .rw[decide_eq_false e,zi]
       rw[hh];have hpre:=t188 h188 C h189 h190 s hs;obtain⟨x,y,hpv,rfl⟩:=bCn s;rw[hpv]at hpre;by_cases e:97<=c.toNat
       .have b2':(97:Int)<=((c.toNat:Nat):Int):=by omega
        have b3':¬((c.toNat:Nat):Int)<=122:=by omega
        simp only[push_cast,seval,-Nat.reducePow,j1,j3,j35,j36,j37,jL,h',hc,b1',b2',b3'];refine⟨a3p,a3p,a3p,?_⟩;refine aAa hpre (by simp only[push_cast,seval,-Nat.reducePow]) (by simp only[push_cast,seval,-Nat.reducePow]) ?_;by_cases e5:sp=0
        .simp only[push_cast,seval,-Nat.reducePow,j1,j3,j35,j36,j37,jL,e5,view,zN,zW,yM,yw,yX]
        .simp only[push_cast,seval,-Nat.reducePow,j1,j3,j35,j36,j37,jL,e5,view,zN,zW,yM,yw,yX]
       .have b2':¬(97:Int)<=((c.toNat:Nat):Int):=by omega
        simp only[push_cast,seval,-Nat.reducePow,j1,j3,j35,j36,j37,jL,h',hc,b1',b2'];refine⟨a3p,a3p,?_⟩;refine aAa hpre (by simp only[push_cast,seval,-Nat.reducePow]) (by simp only[push_cast,seval,-Nat.reducePow]) ?_;by_cases e5:sp=0
        .simp only[push_cast,seval,-Nat.reducePow,j1,j3,j35,j36,j37,jL,e5,view,zN,zW,yM,yw,yX]
        .simp only[push_cast,seval,-Nat.reducePow,j1,j3,j35,j36,j37,jL,e5,view,zN,zW,yM,yw,yX]
def OwnL(ty sz nx nx':Nat)(es:List V)(r:V)(L':Heap):Prop:=∃id,nx<=id∧id<nx'∧r=.own id sz 0 es.length∧L' id=some (.vec ty sz es)
theorem aNu(sp:Int)(l:List (List UInt8)):V.imms (ancV sp l)=true:=aA2 _ _ λq=>rfl
theorem aDt(sp:Int)(l:List (List UInt8)):(ancV sp l).length=l.length:=zb ..
theorem aId(sp:Int)(s:List UInt8):∀i,(anc sp s i).length<=i
 | 0=>Nat.le_refl _
 | i+1=>by have ih:=aId sp s i;rw[aNo,yl];split<;>simp<;>omega
theorem t186(hf:bFu P F T){sp:Int}{s:List UInt8}(h185:PTr P (F 185) [ttV sp s] (.bool true))(hs:s.length<=100000)(L:Heap)(nx:Nat):
 ECall P (F 186) [ttV sp s] L nx λr L' nx'=>nx<=nx'∧OwnL (T 17) 2 nx nx' (ancV sp (anc sp s s.length)) r L'∧∀b,b<nx->L' b=L b:=by
 refine aB0 [] hf (by simp) ?_;simp only[c186,push_cast,seval,-Nat.reducePow,ttV]at h185 ⊢;refine aAa h185 (by simp only[push_cast,seval,-Nat.reducePow]) (by simp only[push_cast,seval,-Nat.reducePow]) ?_;simp only[push_cast,seval,-Nat.reducePow];refine aAd (λm s1=>∃i id,i<=s.length∧m=s.length-i∧s1.env 1=.ptr (nx+1) 0∧s1.L (nx+1)=some (.box (T 17) [.int .i64 sp,.str s])∧s1.env 4=.int .i64 i∧nx+31<=s1.nx∧nx+2<=id∧id<s1.nx∧s1.env 3=.own id 2 0 (anc sp s i).length∧s1.L id=some (.vec (T 17) 2 (ancV sp (anc sp s i)))∧∀b,b<nx->s1.L b=L b) s.length ⟨0,nx+93,?_⟩ λm s1 hJ=>?_
 .simp only[push_cast,seval,-Nat.reducePow];refine⟨rfl,by omega,by omega,by omega,rfl,rfl,λb hb=>?_⟩;rw[aAc _ _ _ _ (by omega),aAc _ _ _ _ (by omega)]
 .obtain⟨i,id,hi,rfl,j1,jB,j4,jn,jd,jd2,j3,jO,jL⟩:=hJ;have hne:nx+1≠id:=by omega
  by_cases h:i<s.length
  .have h':((i:Nat):Int)<((s.length:Nat):Int):=by omega
   have ham:=aId sp s i;have has:=aNo sp s i;obtain⟨c,hc⟩:∃c,s.getD i 0=c:=⟨_,rfl⟩;rw[hc]at has;by_cases b:c.toNat=47
   .have b':((c.toNat:Nat):Int)=47:=by omega
    have hlen:(ancV sp (anc sp s i)).length=(anc sp s i).length:=aDt _ _;have htk:zA (anc sp s i).length (ancV sp (anc sp s i))=ancV sp (anc sp s i):=zj (by omega);have b3:c=47:=by rw[show c=UInt8.ofNat c.toNat by simp,b];rfl
    rw[if_pos b3]at has;simp only[push_cast,seval,-Nat.reducePow,j1,jB,j4,j3,jO,h',hc,b',hne,hlen,htk];have hap:ancV sp (anc sp s i)++[V.agg [V.int IntKind.i64 sp,V.str (zA i s)]]=ancV sp (anc sp s (i+1)):=by rw[has];simp[ancV]
    have hl2:(anc sp s (i+1)).length=(anc sp s i).length+1:=by rw[has];simp
    rw[hap];refine⟨h,hi,by omega,⟨by omega,by omega⟩,s.length-(i+1),by omega,i+1,s1.nx+91,by omega,rfl,?_,by simp,by omega,by omega,by omega,by rw[hl2],aAe _ _ _,λb hb=>?_⟩
    .rw[aAc _ _ _ _ (by omega),aAc _ _ _ _ (by omega)];exact jB
    .rw[aAc _ _ _ _ (by omega),aAc _ _ _ _ (by omega)];exact jL b hb
   .have b':¬((c.toNat:Nat):Int)=47:=by omega
    have b3:¬c=47:=λe=>b (by rw[e];rfl);rw[if_neg b3,yh]at has;simp only[push_cast,seval,-Nat.reducePow,j1,jB,j4,j3,jO,h',hc,b',hne];refine⟨h,⟨by omega,by omega⟩,s.length-(i+1),by omega,i+1,id,by omega,rfl,by simp,by omega,by omega,by omega,by rw[has],by rw[has];exact jO,jL⟩
  .have h':¬((i:Nat):Int)<((s.length:Nat):Int):=by omega
   obtain rfl:i=s.length:=by omega
   simp only[push_cast,seval,-Nat.reducePow,j1,jB,j4,j3,jO,h'];exact⟨by omega,by omega,⟨id,by omega,by omega,by rw[aDt],jO⟩,jL⟩
theorem aKp(sp:Int){l:List (List UInt8)}{i:Nat}(h:i<l.length):(ancV sp l).getD i .junk=.agg [.int .i64 sp,.str (l.getD i [])]:=by simp[ancV,zI,h]
theorem aT3(sp:Int)(l:List (List UInt8))(i:Nat)(x:List UInt8):(ancV sp l).set i (.agg [.int .i64 sp,.str x])=ancV sp (l.set i x):=by simp[ancV,List.map_set]
theorem aSx(l:List (List UInt8))(i k:Nat)(x:List UInt8):(l.set i x).getD k []=if i=k∧k<l.length then x else l.getD k []:=by
 simp only[zI,List.getElem?_set];by_cases h:i=k
 .subst h;by_cases h2:i<l.length
  .simp[h2]
  .simp[h2]
 .simp[h]
theorem aM6{l l':List (List UInt8)}(h:l.length=l'.length)(h2:∀k,k<l.length->l.getD k []=l'.getD k []):l=l':=by
 refine List.ext_getElem h λk h3 h4=>?_;have:=h2 k h3;simpa[zI,h3,h4]using this
theorem t229(hf:bE0 P F T)(sp:Int)(l:List (List UInt8))(hl:l.length<=100000)(L:Heap)(nx id:Nat)(hid:id<nx)(hL:L id=some (.vec (T 17) 2 (ancV sp l))):
 ECall P (F 229) [.own id 2 0 l.length] L nx λ_ L' nx'=>nx<=nx'∧L' id=some (.vec (T 17) 2 (ancV sp l.reverse))∧∀b,b<nx->b≠id->L' b=L b:=by
 refine aB0 [] hf (by simp) ?_;simp only[c229,push_cast,seval,-Nat.reducePow];refine⟨by omega,?_⟩;refine aAd (λm s1=>∃i q,2*i<=l.length+1∧m=l.length-i∧s1.env 0=.own id 2 0 l.length∧s1.env 2=.int .i64 i∧s1.env 3=.int .i64 ((l.length:Int)-1-i)∧nx<=s1.nx∧q.length=l.length∧s1.L id=some (.vec (T 17) 2 (ancV sp q))∧(∀k,k<l.length->q.getD k []=if k<i∨l.length-i<=k then l.getD (l.length-1-k) []else l.getD k [])∧∀b,b<nx->b≠id->s1.L b=L b) l.length ⟨0,l,?_⟩ λm s1 hJ=>?_
 .simp only[push_cast,seval,-Nat.reducePow];refine⟨rfl,by simp,by omega,hL,λk hk=>?_,λb _ _=>trivial⟩;rw[if_neg (by omega)]
 .obtain⟨i,q,hi,rfl,j0,j2,j3,jn,hq,jO,hk,jL⟩:=hJ;have hal:(ancV sp q).length=l.length:=by rw[aDt,hq]
  by_cases h:2*i+1<l.length
  .have h':((i:Nat):Int)<(l.length:Int)-1-i:=by omega
   obtain⟨j,hj⟩:∃j,j=l.length-1-i:=⟨_,rfl⟩;have hj':(l.length:Int)-1-i=((j:Nat):Int):=by omega
   rw[hj']at j3 h';have ga:=aKp sp (l:=q) (i:=i) (by omega);have gb:=aKp sp (l:=q) (i:=j) (by omega);simp only[push_cast,seval,-Nat.reducePow,j0,j2,j3,jO,h',hal,ga,gb];rw[aT3];have gc:=aKp sp (l:=q.set i (q.getD j [])) (i:=j) (by rw[xU];omega);rw[gc];have hrc:∀x y:List UInt8,((V.agg [V.int IntKind.i64 sp,V.str x]).recell (V.int IntKind.i64 sp::V.str y::List.drop 2 (V.agg [V.int IntKind.i64 sp,V.str x]).cells))=V.agg [V.int IntKind.i64 sp,V.str y]:=λ_ _=>rfl;rw[hrc,aT3];refine⟨by omega,by omega,by omega,by omega,by omega,by omega,by omega,by rw[aDt,xU];omega,⟨by omega,by omega⟩,⟨by omega,by omega⟩,l.length-(i+1),by omega,i+1,(q.set i (q.getD j [])).set j (q.getD i []),by omega,rfl,by simp,?_,by omega,by simp[hq],rfl,λk hkn=>?_,λb hb hbi=>?_⟩
   .congr 1;omega
   .rw[aSx,aSx,xU,hq];have ki:=hk i (by omega);have kj:=hk j (by omega);have kk:=hk k hkn;rw[if_neg (by omega)]at ki kj;by_cases e1:j=k
    .subst e1;rw[if_pos ⟨rfl,hkn⟩,if_pos (by omega),ki];congr 1;omega
    .by_cases e2:i=k
     .subst e2;rw[if_neg (by omega),if_pos ⟨rfl,hkn⟩,if_pos (by omega),kj];congr 1
     .rw[if_neg (by omega),if_neg (by omega),kk];by_cases e3:k<i∨l.length-i<=k
      .rw[if_pos e3,if_pos (by omega)]
      .rw[if_neg e3,if_neg (by omega)]
   .rw[aAc _ _ _ _ hbi,aAc _ _ _ _ hbi];exact jL b hb hbi
  .have h':¬((i:Nat):Int)<(l.length:Int)-1-i:=by omega
   simp only[push_cast,seval,-Nat.reducePow,j0,j2,j3,jO,h',hal];have hqr:q=l.reverse:=by
    refine aM6 (by rw[wG,hq]) λk hkn=>?_;rw[hk k (by omega)];have er:l.reverse.getD k []=l.getD (l.length-1-k) []:=by simp only[zI];rw[List.getElem?_reverse (by omega)]
    rw[er];by_cases e3:k<i∨l.length-i<=k
    .rw[if_pos e3]
    .rw[if_neg e3];congr 1;omega
   rw[hqr];exact⟨by omega,by omega,rfl,jL⟩
theorem aH7(l:List Scp):V.imms (scV l)=true:=aA2 _ _ λq=>rfl
theorem aIt(l:List Scp):(scV l).length=l.length:=zb ..
theorem aS0(l:List Scp)(x:Scp):scV l++[.agg [.int .i64 x.k,.int .i64 x.sp,.str x.n]]=scV (l++[x]):=by simp[scV,Scp.v]
def pgS(sp:Int)(q:List UInt8):Scp:=⟨3,sp,q⟩
theorem t181(hf:bKo P F T)(h186:bFu P F T)(h229:bE0 P F T){sp:Int}{s:List UInt8}(h185:PTr P (F 185) [ttV sp s] (.bool true))(hs:s.length<=90000):
 PTr P (F 181) [ttV sp s] (.lst 3 (scV (levF sp s))):=by
 refine ptrC [] hf (by simp) (by simp[V.imm,aH7]) ?_;obtain⟨A,hA⟩:∃A,anc sp s s.length=A:=⟨_,rfl⟩;have hAl:A.length<=90000:=by have:=aId sp s s.length;rw[hA]at this;omega
 have hlev:levF sp s=pgS sp s::(A.reverse.map (pgS sp))++[⟨2,sp,[]⟩,⟨1,0,[]⟩]:=by rw[levF,hA];rfl
 simp only[c181,push_cast,seval,-Nat.reducePow,ttV];refine aAg (t186 h186 h185 (by omega) _ _) λr L1 n1 hp=>?_;rw[hA]at hp;obtain⟨hn,⟨id,hi1,hi2,rfl,hI⟩,hL⟩:=hp;rw[aDt]at *;refine aAg (t229 h229 sp A (by omega) _ _ id (by omega) hI) λr L2 n2 hp=>?_;obtain⟨hn2,hI2,hL2⟩:=hp;simp only[push_cast,seval,-Nat.reducePow];have b1:L2 1=some (.box (T 17) [.int .i64 sp,.str s]):=by rw[hL2 1 (by omega) (by omega),hL 1 (by omega)];rfl
 have b43:L2 43=some (.vec (T 18) 3 (scV [pgS sp s])):=by rw[hL2 43 (by omega) (by omega),hL 43 (by omega)];rfl
 have hRl:A.reverse.length=A.length:=wG;generalize A.reverse=R at *;refine aAd (λm s1=>∃i id3,i<=A.length∧m=A.length-i∧s1.env 1=.ptr 1 0∧s1.L 1=some (.box (T 17) [.int .i64 sp,.str s])∧s1.env 14=.own id 2 0 A.length∧s1.L id=some (.vec (T 17) 2 (ancV sp R))∧s1.env 15=.int .i64 A.length∧s1.env 16=.int .i64 i∧s1.env 3=.own id3 3 0 (i+1)∧s1.L id3=some (.vec (T 18) 3 (scV (pgS sp s::(R.take i).map (pgS sp))))∧id3<s1.nx∧id<s1.nx∧id3≠id∧id3≠1∧id≠1∧2<=s1.nx) A.length ⟨0,43,?_⟩ λm s1 hJ=>?_
 .simp only[push_cast,seval,-Nat.reducePow];exact⟨rfl,b1,hI2,b43,by omega,by omega,by omega,by omega⟩
 .obtain⟨i,id3,hi,rfl,j1,jB,j14,jI,j15,j16,j3,jO,k1,k2,k3,k4,k5,k6⟩:=hJ;have hsl:(scV (pgS sp s::(R.take i).map (pgS sp))).length=i+1:=by rw[aIt];simp;omega
  have htk:zA (i+1) (scV (pgS sp s::(R.take i).map (pgS sp)))=scV (pgS sp s::(R.take i).map (pgS sp)):=zj (by omega);have hal:(ancV sp R).length=A.length:=by rw[aDt,hRl]
  by_cases h:i<A.length
  .have h':((i:Nat):Int)<((A.length:Nat):Int):=by omega
   have hg:=aKp sp (l:=R) (i:=i) (by omega);have q1:id3≠s1.nx+40:=by omega
   simp only[push_cast,seval,-Nat.reducePow,j1,jB,j14,jI,j15,j16,j3,jO,h',hsl,htk,hal,hg,q1];have hs3:=aS0 (pgS sp s::(R.take i).map (pgS sp)) (pgS sp (R.getD i []));have hs4:pgS sp s::(R.take i).map (pgS sp)++[pgS sp (R.getD i [])]=pgS sp s::(R.take (i+1)).map (pgS sp):=by
    have hiR:i<R.length:=by omega
    have er:R.getD i []=R[i]:=by simp[zI,hiR]
    rw[er,List.cons_append,<-xn (h:=hiR),yT,yZ];rfl
   rw[hs4]at hs3;simp only[pgS]at hs3 ⊢;rw[hs3];refine⟨by omega,by omega,by omega,⟨by omega,by omega⟩,A.length-(i+1),by omega,i+1,s1.nx+92,by omega,rfl,?_,?_,by simp,rfl,aAe _ _ _,by omega,by omega,by omega,by omega,by omega⟩
   .repeat rw[aAc _ _ _ _ (by omega)]
    exact jB
   .repeat rw[aAc _ _ _ _ (by omega)]
    exact jI
  .have h':¬((i:Nat):Int)<((A.length:Nat):Int):=by omega
   obtain rfl:i=A.length:=by omega
   have hRt:R.take A.length=R:=zj (by omega);rw[hRt]at jO hsl htk;simp only[push_cast,seval,-Nat.reducePow,j1,jB,j14,jI,j15,j16,j3,jO,h',hsl,htk,hal];have hx:scV (pgS sp s::R.map (pgS sp))++[V.agg [V.int IntKind.i64 2,V.int IntKind.i64 sp,V.str []],V.agg [V.int IntKind.i64 1,V.int IntKind.i64 0,V.str []]]=scV (levF sp s):=by rw[hlev];simp[scV,Scp.v]
   rw[hx];have hll:(levF sp s).length=A.length+3:=by rw[hlev];simp[hRl]
   refine⟨by omega,?_⟩;exact aB7 (aAe _ _ _) (aH7 _) (by rw[aIt,hll])
theorem t182(hf:bJy P F T)(a b:Scp):PTr P (F 182) [a.v,b.v] (.bool (covB a b)):=by
 refine ptrC [] hf (by simp) rfl ?_;obtain⟨k,sp,n⟩:=a;obtain⟨k2,sp2,n2⟩:=b;by_cases h1:k=k2
 .subst h1;by_cases h2:k=3
  .have hc:covB ⟨k,sp,n⟩ ⟨k,sp2,n2⟩=(decide (sp=sp2)&&decide (n=n2)):=by simp[covB,h2]
   rw[hc];simp only[c182,push_cast,seval,-Nat.reducePow,Scp.v,h2,view]
  .by_cases h3:k=2
   .have hc:covB ⟨k,sp,n⟩ ⟨k,sp2,n2⟩=decide (sp=sp2):=by simp[covB,h3]
    rw[hc];simp only[c182,push_cast,seval,-Nat.reducePow,Scp.v,h3,view]
   .have hc:covB ⟨k,sp,n⟩ ⟨k,sp2,n2⟩=true:=by simp[covB,h2,h3]
    rw[hc];simp only[c182,push_cast,seval,-Nat.reducePow,Scp.v,h2,h3,view]
 .have hc:covB ⟨k,sp,n⟩ ⟨k2,sp2,n2⟩=false:=by simp[covB,h1]
  rw[hc];simp only[c182,push_cast,seval,-Nat.reducePow,Scp.v,h1,view]
def ixS(l:List (List UInt8))(x:List UInt8):Int:=match l.findIdx? (·==x)with|none=>-1|some i=>i
theorem bJ1(l:List (List UInt8))(x:List UInt8):decide (0<=ixS l x)=l.contains x:=by
 unfold ixS;cases h:l.findIdx? (·==x)with
 | none =>
   rw[zY]at h;have:l.contains x=false:=by
    cases hb:l.contains x with
    | false=>rfl
    | true=>have:=h x (yj.1 hb);simp at this
   rw[this];rfl
 | some i=>rw[ym]at h;obtain⟨hi,h1,h2⟩:=h;have:l.contains x=true:=yj.2 (by rw[<-beq_iff_eq.1 h1];exact List.getElem_mem hi);rw[this];simp
theorem t222(hf:aOw P F T)(l:List (List UInt8))(x:List UInt8)(hl:l.length<=2^60):PTr P (F 222) [.lst 1 (l.map .str),.str x] (.int .i64 (ixS l x)):=by
 refine ptrC [] hf (by simp) rfl ?_;have hln:(l.map V.str).length=l.length:=zb ..;simp only[c222,push_cast,seval,-Nat.reducePow,hln];refine aAd (λm s1=>∃i,i<=l.length∧m=l.length-i∧(∀k,k<i->l.getD k []≠x)∧s1.env 0=.lst 1 (l.map .str)∧s1.env 1=.str x∧s1.env 7=.int .i64 l.length∧s1.env 8=.int .i64 i) l.length ⟨0,?_⟩ λm s1 hJ=>?_
 .simp only[push_cast,seval,-Nat.reducePow];exact⟨rfl,λk hk=>absurd hk (Nat.not_lt_zero _)⟩
 .obtain⟨i,hi,rfl,hn,j0,j1,j7,j8⟩:=hJ;by_cases h:i<l.length
  .have h':((i:Nat):Int)<((l.length:Nat):Int):=by omega
   have hg:=aEe h;by_cases e:x=l.getD i []
   .have hix:ixS l x=i:=by
     have:l.findIdx? (·==x)=some i:=by
      rw[ym];refine⟨h,?_,λj hj=>?_⟩
      .simp[e,zI,h]
      .have:=hn j hj;have hjl:j<l.length:=by omega
       simpa[zI,hjl]using this
     rw[ixS,this]
    simp only[push_cast,seval,-Nat.reducePow,j0,j1,j7,j8,h',hln,hg,e,view];rw[<-e,hix];exact⟨h,rfl⟩
   .simp only[push_cast,seval,-Nat.reducePow,j0,j1,j7,j8,h',hln,hg,e];refine⟨h,⟨by omega,by omega⟩,l.length-(i+1),by omega,i+1,by omega,rfl,λk hk=>?_,by simp⟩;by_cases hki:k=i
    .rw[hki];exact λq=>e q.symm
    .exact hn k (by omega)
  .have h':¬((i:Nat):Int)<((l.length:Nat):Int):=by omega
   obtain rfl:i=l.length:=by omega
   have hix:ixS l x=-1:=by
    have:l.findIdx? (·==x)=none:=by rw[zY];intro y hy;obtain⟨j,hj,rfl⟩:=List.mem_iff_getElem.1 hy;have:=hn j hj;simpa[zI,hj]using this
    rw[ixS,this]
   simp only[push_cast,seval,-Nat.reducePow,j0,j1,j7,j8,h',hix,view]
theorem t220(hf:aW0 P F T)(h222:aOw P F T)(l:List (List UInt8))(x:List UInt8)(hl:l.length<=2^60):PTr P (F 220) [.lst 1 (l.map .str),.str x] (.bool (l.contains x)):=by
 refine ptrC [] hf (by simp) rfl ?_;rw[<-bJ1];simp only[c220,push_cast,seval,-Nat.reducePow];refine aAa (t222 h222 l x hl) (by simp only[push_cast,seval,-Nat.reducePow,aAp]) (by simp only[push_cast,seval,-Nat.reducePow]) ?_;simp only[push_cast,seval,-Nat.reducePow,view]
theorem bF9{l:List Scp}{i:Nat}(h:i<l.length):∃q,l[i]?=some q∧(scV l).getD i .junk=.agg [.int .i64 q.k,.int .i64 q.sp,.str q.n]:=⟨l[i],by simp[h],by simp[scV,zI,h,Scp.v]⟩
theorem bGl{l:List Rul}{i:Nat}(h:i<l.length):∃q,l[i]?=some q∧(ruV l).getD i .junk=.agg [.bool q.al,.int .i64 q.ri,.str q.gr,.int .i64 q.sc.k,.int .i64 q.sc.sp,.str q.sc.n]:=⟨l[i],by simp[h],by simp[ruV,zI,h,Rul.v]⟩
theorem aE7(l:List Rul):(ruV l).length=l.length:=zb ..
theorem aBv(l:List Rul):V.imms (ruV l)=true:=aA2 _ _ λq=>rfl
theorem aNc{α:Type}{l:List α}{i:Nat}{q:α}(h:l[i]?=some q):l.drop i=q::l.drop (i+1):=by
 obtain⟨h1,rfl⟩:=List.getElem?_eq_some_iff.1 h;simp
theorem aUb(sp:Int)(s:List UInt8):(levF sp s).length<=s.length+3:=by
 have:=aId sp s s.length;simp[levF];omega
theorem aHw{sp:Int}{s:List UInt8}(h:aBb sp s=true):s.length<=100:=by
 by_cases h1:s.length<=100
 .exact h1
 .exfalso;simp[aBb,h1]at h
def polV(gv:List V)(rs:List Rul)(dv:List V):V:=.agg [.lst 2 gv,.lst 6 (ruV rs),.lst 5 dv]
theorem t178(hf:bIf P F T){sp:Int}{s:List UInt8}{g:List (List UInt8)}(h185:PTr P (F 185) [ttV sp s] (.bool (aBb sp s)))(h181:aBb sp s=true->PTr P (F 181) [ttV sp s] (.lst 3 (scV (levF sp s))))(h182:∀a b:Scp,PTr P (F 182) [a.v,b.v] (.bool (covB a b)))(h220:∀x,PTr P (F 220) [.lst 1 (g.map .str),.str x] (.bool (g.contains x)))
 (gv:List V) (rs:List Rul) (dv:List V) (hgv:V.imms gv=true) (hdv:V.imms dv=true) (hrs:rs.length<=2^60) (right:Int) :
 PTr P (F 178) [polV gv rs dv,.lst 1 (g.map .str),.int .i64 right,ttV sp s] (.bool (mayF rs g right sp s)):=by
 refine ptrC [] hf (by simp) rfl ?_;have hri:=aBv rs;have hgi:=aAp g;have hrl:=aE7 rs;simp only[c178,push_cast,seval,-Nat.reducePow,polV,ttV,hgv,hdv,hri]at h185 h181 ⊢;refine aAa h185 (by rfl) (by rfl) ?_;by_cases hv:aBb sp s=true
 rotate_left
 .have hv':aBb sp s=false:=by grind
  simp only[push_cast,seval,-Nat.reducePow,hv',view,mayF,zi]
 by_cases a1:right<1
 .have d1:¬1<=right:=by omega
  simp only[push_cast,seval,-Nat.reducePow,hv,a1,d1,view,mayF,zy,zi]
 by_cases a2:5<right
 .have d2:¬right<=5:=by omega
  simp only[push_cast,seval,-Nat.reducePow,hv,a1,a2,d2,view,mayF,zy,zi,zT]
 have d1:1<=right:=by omega
 have d2:right<=5:=by omega
 have hm:mayF rs g right sp s=mayL rs g right (levF sp s):=by simp only[mayF,hv,d1,d2,decide_true,zy]
 rw[hm];simp only[push_cast,seval,-Nat.reducePow,hv,a1,a2];refine aAa (h181 hv) (by rfl) (by simp only[push_cast,seval,-Nat.reducePow,aH7]) ?_;have hsl:=aHw hv;have hll:=aUb sp s;obtain⟨LV,hLV⟩:∃LV,levF sp s=LV:=⟨_,rfl⟩;rw[hLV]at hll ⊢;have hlen:(scV LV).length=LV.length:=aIt LV;simp only[push_cast,seval,-Nat.reducePow,hlen];refine aAd (λm s1=>∃i,i<=LV.length∧m=LV.length-i∧mayL rs g right LV=mayL rs g right (LV.drop i)∧s1.env 1=.lst 1 (g.map .str)∧s1.env 2=.int .i64 right∧s1.env 4=.ptr 4 0∧s1.L 4=some (.box (T 16) [.lst 2 gv,.lst 6 (ruV rs),.lst 5 dv])∧s1.env 27=.lst 3 (scV LV)∧s1.env 28=.int .i64 LV.length∧s1.env 29=.int .i64 i∧5<=s1.nx) LV.length ⟨0,?_⟩ λm s1 hJ=>?_
 .simp only[push_cast,seval,-Nat.reducePow];rfl
 .obtain⟨i,hi,rfl,hma,j1,j2,j4,jB,j27,j28,j29,jn⟩:=hJ;by_cases h:i<LV.length
  .have h':((i:Nat):Int)<((LV.length:Nat):Int):=by omega
   obtain⟨lv,hlv,hg⟩:=bF9 h;have hdr:=aNc hlv;rw[hdr,mayL]at hma;have q4:4≠s1.nx+75:=by omega
   simp only[push_cast,seval,-Nat.reducePow,j1,j2,j4,jB,j27,j28,j29,h',hlen,hg,q4];refine⟨h,?_⟩;refine aAd (λm2 s2=>∃k a b d,k<=rs.length∧m2=rs.length-k∧aJt g right lv rs (false,true)=aJt g right lv (rs.drop k) (a,b)∧s2.env 1=.lst 1 (g.map .str)∧s2.env 2=.int .i64 right∧s2.env 4=.ptr 4 0∧s2.L 4=some (.box (T 16) [.lst 2 gv,.lst 6 (ruV rs),.lst 5 dv])∧s2.env 27=.lst 3 (scV LV)∧s2.env 28=.int .i64 LV.length∧s2.env 29=.int .i64 i∧s2.env 10=.ptr d 0∧s2.L d=some (.box (T 18) [.int .i64 lv.k,.int .i64 lv.sp,.str lv.n])∧s2.env 11=.bool a∧s2.env 12=.bool b∧s2.env 34=.lst 6 (ruV rs)∧s2.env 35=.int .i64 rs.length∧s2.env 36=.int .i64 k∧5<=d∧d<s2.nx) rs.length ⟨0,false,true,s1.nx+75,?_⟩ λm2 s2 hK=>?_
   .simp only[push_cast,seval,-Nat.reducePow,j1,j2,j4,jB,j27,j28,j29,q4,hrl];simp
   .obtain⟨k,a,b,d,hk,rfl,hat,k1,k2,k4,kB,k27,k28,k29,k10,kD,k11,k12,k34,k35,k36,kd,kd2⟩:=hK;have p4:4≠s2.nx+79:=by omega
    have pd:d≠s2.nx+79:=by omega
    by_cases e:k<rs.length
    .have e':((k:Nat):Int)<((rs.length:Nat):Int):=by omega
     obtain⟨r,hr,hgr⟩:=bGl e;have hdk:=aNc hr;rw[hdk,aJt]at hat;by_cases e1:r.ri=right
     rotate_left
     .have hh:hitB g right lv r=false:=by simp[hitB,e1]
      rw[hh]at hat;simp only[push_cast,seval,-Nat.reducePow,k1,k2,k4,kB,k27,k28,k29,k10,kD,k11,k12,k34,k35,k36,e',hrl,hgr,e1,p4,pd];refine⟨e,⟨by omega,by omega⟩,rs.length-(k+1),by omega,k+1,a,b,d,by omega,rfl,hat,rfl,?_,rfl,rfl,by simp,kd,by omega⟩
      repeat rw[aAc _ _ _ _ (by omega)]
      exact kD
     .simp only[push_cast,seval,-Nat.reducePow,k1,k2,k4,kB,k27,k28,k29,k10,kD,k11,k12,k34,k35,k36,e',hrl,hgr,e1,p4,pd];refine⟨e,aAa (h220 r.gr) (by simp only[push_cast,seval,-Nat.reducePow,hgi]) (by rfl) ?_⟩;cases e2:g.contains r.gr with
      | false =>
        have hh:hitB g right lv r=false:=by simp only[hitB,e2,zT,zi]
        rw[hh]at hat;simp only[push_cast,seval,-Nat.reducePow,k1,k2,k4,kB,k27,k28,k29,k10,kD,k11,k12,k34,k35,k36,p4,pd];refine⟨⟨by omega,by omega⟩,rs.length-(k+1),by omega,k+1,a,b,d,by omega,rfl,hat,rfl,?_,rfl,rfl,by simp,kd,by omega⟩
        repeat rw[aAc _ _ _ _ (by omega)]
        exact kD
      | true =>
        simp only[push_cast,seval,-Nat.reducePow,k1,k2,k4,kB,k27,k28,k29,k10,kD,k11,k12,k34,k35,k36,p4,pd];refine aAa (h182 r.sc lv) (by rfl) (by rfl) ?_;have hh:hitB g right lv r=covB r.sc lv:=by simp only[hitB,e1,e2,decide_true,zy]
        rw[hh]at hat;cases e3:covB r.sc lv with
        | false =>
          rw[e3]at hat;simp only[push_cast,seval,-Nat.reducePow,k1,k2,k4,kB,k27,k28,k29,k10,kD,k11,k12,k34,k35,k36,p4,pd];refine⟨⟨by omega,by omega⟩,rs.length-(k+1),by omega,k+1,a,b,d,by omega,rfl,hat,rfl,?_,rfl,rfl,by simp,kd,by omega⟩
          repeat rw[aAc _ _ _ _ (by omega)]
          exact kD
        | true =>
          rw[e3]at hat;cases b with
          | false =>
            simp only[push_cast,seval,-Nat.reducePow,k1,k2,k4,kB,k27,k28,k29,k10,kD,k11,k12,k34,k35,k36,p4,pd];refine⟨⟨by omega,by omega⟩,rs.length-(k+1),by omega,k+1,true,false,d,by omega,rfl,hat,rfl,?_,rfl,rfl,by simp,kd,by omega⟩
            repeat rw[aAc _ _ _ _ (by omega)]
            exact kD
          | true =>
            simp only[push_cast,seval,-Nat.reducePow,k1,k2,k4,kB,k27,k28,k29,k10,kD,k11,k12,k34,k35,k36,p4,pd];refine⟨⟨by omega,by omega⟩,rs.length-(k+1),by omega,k+1,true,r.al,d,by omega,rfl,hat,rfl,?_,rfl,rfl,by simp,kd,by omega⟩
            repeat rw[aAc _ _ _ _ (by omega)]
            exact kD
    .have e':¬((k:Nat):Int)<((rs.length:Nat):Int):=by omega
     obtain rfl:k=rs.length:=by omega
     rw[yx,aJt]at hat;rw[hat]at hma;cases a with
     | true=>simp only[push_cast,seval,-Nat.reducePow,k1,k2,k4,kB,k27,k28,k29,k10,kD,k11,k12,k34,k35,k36,e',view];grind
     | false=>simp only[push_cast,seval,-Nat.reducePow,k1,k2,k4,kB,k27,k28,k29,k10,kD,k11,k12,k34,k35,k36,e'];exact⟨⟨by omega,by omega⟩,LV.length-(i+1),by omega,i+1,by omega,rfl,hma,by simp⟩
  .have h':¬((i:Nat):Int)<((LV.length:Nat):Int):=by omega
   obtain rfl:i=LV.length:=by omega
   rw[yx,mayL]at hma;simp only[push_cast,seval,-Nat.reducePow,j1,j2,j4,jB,j27,j28,j29,h',hma,view]
theorem t204(hf:aQ3 P F T)(c:UInt8):PTr P (F 204) [.int .u8 c.toNat] (.int .u8 (lowB c).toNat):=by
 refine ptrC [] hf (by simp) rfl ?_;rw[aS5];by_cases a1:65<=c.toNat
 .have a1':(65:Int)<=((c.toNat:Nat):Int):=by omega
  by_cases a2:c.toNat<=90
  .have a2':((c.toNat:Nat):Int)<=90:=by omega
   rw[if_pos ⟨a1,a2⟩];simp only[c204,push_cast,seval,-Nat.reducePow,a1',a2',view];grind
  .have a2':¬((c.toNat:Nat):Int)<=90:=by omega
   rw[if_neg (by omega)];simp only[c204,push_cast,seval,-Nat.reducePow,a1',a2',view]
 .have a1':¬(65:Int)<=((c.toNat:Nat):Int):=by omega
  rw[if_neg (by omega)];simp only[c204,push_cast,seval,-Nat.reducePow,a1',view]
theorem aWd(a b:UInt8):((a.toNat:Nat):Int)=((b.toNat:Nat):Int)↔a=b:=⟨λh=>UInt8.toNat_inj.1 (by omega),λh=>by rw[h]⟩
theorem t203(hf:aVj P F T)(h204:aQ3 P F T)(a b:List UInt8)(ha:a.length<=100000)(hb:b.length<=100000):PTr P (F 203) [.str a,.str b] (.bool (decide (lowL a=lowL b))):=by
 refine ptrC [] hf (by simp) rfl ?_;by_cases hl:a.length=b.length
 rotate_left
 .have hl':¬((a.length:Nat):Int)=((b.length:Nat):Int):=by omega
  have hd:decide (lowL a=lowL b)=false:=decide_eq_false λe=>hl (by have:=congrArg List.length e;simpa[lowL]using this);simp only[c203,push_cast,seval,-Nat.reducePow,hl',hd,view]
 have hl':((a.length:Nat):Int)=((b.length:Nat):Int):=by omega
 simp only[c203,push_cast,seval,-Nat.reducePow,hl'];refine aAd (λm s1=>∃i,i<=a.length∧m=a.length-i∧decide (lowL a=lowL b)=decide (lowL (a.drop i)=lowL (b.drop i))∧s1.env 0=.str a∧s1.env 1=.str b∧s1.env 5=.int .i64 i) a.length ⟨0,?_⟩ λm s1 hJ=>?_
 .simp only[push_cast,seval,-Nat.reducePow];rfl
 .obtain⟨i,hi,rfl,hd,j0,j1,j5⟩:=hJ;by_cases h:i<a.length
  .have h2:i<b.length:=by omega
   have h':((i:Nat):Int)<((a.length:Nat):Int):=by omega
   obtain⟨x,hx⟩:∃c,a.getD i 0=c:=⟨_,rfl⟩;obtain⟨y,hy⟩:∃c,b.getD i 0=c:=⟨_,rfl⟩;have ea:a.drop i=x::a.drop (i+1):=by rw[<-hx,zH h];grind
   have eb:b.drop i=y::b.drop (i+1):=by rw[<-hy,zH h2];grind
   simp only[push_cast,seval,-Nat.reducePow,j0,j1,j5,h',hx,hy];refine⟨h,aAa (t204 h204 x) (by rfl) (by rfl) ?_⟩;simp only[push_cast,seval,-Nat.reducePow,j0,j1,j5,h',hx,hy];refine⟨h2,aAa (t204 h204 y) (by rfl) (by rfl) ?_⟩;by_cases e:lowB x=lowB y
   .have e':(((lowB x).toNat:Nat):Int)=(((lowB y).toNat:Nat):Int):=by rw[e]
    simp only[push_cast,seval,-Nat.reducePow,j0,j1,j5,e'];refine⟨⟨by omega,by omega⟩,a.length-(i+1),by omega,i+1,by omega,rfl,?_,by simp⟩;rw[hd,ea,eb];simp[lowL,e]
   .have e':¬(((lowB x).toNat:Nat):Int)=(((lowB y).toNat:Nat):Int):=λq=>e ((aWd _ _).1 q);simp only[push_cast,seval,-Nat.reducePow,j0,j1,j5,e',view];rw[hd,ea,eb];simp[lowL,e]
  .have h':¬((i:Nat):Int)<((a.length:Nat):Int):=by omega
   have ea:a.drop i=[]:=zZ (by omega);have eb:b.drop i=[]:=zZ (by omega);rw[ea,eb]at hd;simp only[push_cast,seval,-Nat.reducePow,j0,j1,j5,h',view,hd]
theorem t205(hf:aRe P F T)(n:Nat)(hn:n<6):PTr P (F 205) [.int .i64 n] (.str (aHn n)):=by
 refine ptrC [] hf (by simp) rfl ?_
 match n,hn with
 | 0,_=>simp only[c205,push_cast,seval,-Nat.reducePow,view];rfl
 | 1,_=>simp only[c205,push_cast,seval,-Nat.reducePow,view];rfl
 | 2,_=>simp only[c205,push_cast,seval,-Nat.reducePow,view];rfl
 | 3,_=>simp only[c205,push_cast,seval,-Nat.reducePow,view];rfl
 | 4,_=>simp only[c205,push_cast,seval,-Nat.reducePow,view];rfl
 | 5,_=>simp only[c205,push_cast,seval,-Nat.reducePow,view];rfl
theorem t193(hf:aUr P F T)(l:List (List UInt8))(x:List UInt8)(hl:l.length<=2^60):PTr P (F 193) [.lst 1 (l.map .str),.str x] (.bool (l.contains x)):=by
 refine ptrC [] hf (by simp) rfl ?_;have hln:(l.map V.str).length=l.length:=zb ..;simp only[c193,push_cast,seval,-Nat.reducePow,hln];refine aAd (λm s1=>∃i,i<=l.length∧m=l.length-i∧l.contains x=(l.drop i).contains x∧s1.env 0=.lst 1 (l.map .str)∧s1.env 1=.str x∧s1.env 5=.int .i64 i) l.length ⟨0,?_⟩ λm s1 hJ=>?_
 .simp only[push_cast,seval,-Nat.reducePow];rfl
 .obtain⟨i,hi,rfl,hn,j0,j1,j5⟩:=hJ;by_cases h:i<l.length
  .have h':((i:Nat):Int)<((l.length:Nat):Int):=by omega
   have hg:=aEe h;obtain⟨y,hy⟩:∃y,l.getD i []=y:=⟨_,rfl⟩;have el:l.drop i=y::l.drop (i+1):=by rw[<-hy,zH h];grind
   rw[el]at hn;rw[hy]at hg;by_cases e:y=x
   .simp only[push_cast,seval,-Nat.reducePow,j0,j1,j5,h',hln,hg,e,view];grind
   .simp only[push_cast,seval,-Nat.reducePow,j0,j1,j5,h',hln,hg,e];refine⟨h,⟨by omega,by omega⟩,l.length-(i+1),by omega,i+1,by omega,rfl,?_,by simp⟩;grind
  .have h':¬((i:Nat):Int)<((l.length:Nat):Int):=by omega
   have el:l.drop i=[]:=zZ (by omega);rw[el]at hn;simp only[push_cast,seval,-Nat.reducePow,j0,j1,j5,h',hln,hn,view];rfl
theorem t195(hf:bIu P F T)(a b:Scp):PTr P (F 195) [a.v,b.v] (.bool (covB a b)):=by
 refine ptrC [] hf (by simp) rfl ?_;obtain⟨k,sp,n⟩:=a;obtain⟨k2,sp2,n2⟩:=b;by_cases h1:k=k2
 .subst h1;by_cases h2:k=3
  .have hc:covB ⟨k,sp,n⟩ ⟨k,sp2,n2⟩=(decide (sp=sp2)&&decide (n=n2)):=by simp[covB,h2]
   rw[hc];simp only[c195,push_cast,seval,-Nat.reducePow,Scp.v,h2,view]
  .by_cases h3:k=2
   .have hc:covB ⟨k,sp,n⟩ ⟨k,sp2,n2⟩=decide (sp=sp2):=by simp[covB,h3]
    rw[hc];simp only[c195,push_cast,seval,-Nat.reducePow,Scp.v,h3,view]
   .have hc:covB ⟨k,sp,n⟩ ⟨k,sp2,n2⟩=true:=by simp[covB,h2,h3]
    rw[hc];simp only[c195,push_cast,seval,-Nat.reducePow,Scp.v,h2,h3,view]
 .have hc:covB ⟨k,sp,n⟩ ⟨k2,sp2,n2⟩=false:=by simp[covB,h1]
  rw[hc];simp only[c195,push_cast,seval,-Nat.reducePow,Scp.v,h1,view]
def aN3(s:List UInt8):V:=match colF s with
 | none=>.tup [.int .i64 0,.int .i64 0]
 | some i=>if nsF (unbl (s.take i)) 5 1=0 then .tup [.int .i64 0,.int .i64 0]else .tup [.int .i64 (nsF (unbl (s.take i)) 5 1),.int .i64 i]
theorem bC0(s:List UInt8):∃y,aN3 s=.tup [.int .i64 (aGl s),.int .i64 y]:=by
 unfold aN3 aGl;grind
theorem t202(hf:bCc P F T)(h102:aOs P F T)(h203:aVj P F T)(h204:aQ3 P F T)(h205:aRe P F T)(s:List UInt8)(hs:s.length<=8000):PTr P (F 202) [.str s] (aN3 s):=by
 have him:(aN3 s).imm=true:=by
  unfold aN3;split
  .rfl
  .split<;>rfl
 refine ptrC [] hf (by simp) him ?_;have hix:=t102 h102 s [58] 0 (by omega) (by omega) (by simp) (by simp);rw[aNv]at hix;unfold aN3 colF;cases hc:s.findIdx? (·==58)with
 | none=>simp only[yn,hc,Option.map_none]at hix;simp only[c202,push_cast,seval,-Nat.reducePow];refine aAa hix (by rfl) (by rfl) ?_;simp only[push_cast,seval,-Nat.reducePow,view]
 | some k =>
   simp only[yn,hc,Option.map_some,Nat.add_zero]at hix;obtain⟨hks,-⟩:=ym.1 hc;obtain⟨p,hp⟩:∃p,s.take k=p:=⟨_,rfl⟩;have hpl:p.length<=8000:=by grind
   obtain⟨q,hq⟩:∃q,unbl p=q:=⟨_,rfl⟩;have hql:q.length<=8000:=by rw[<-hq];have:=aM2 p;omega
   simp only[hp,hq]at hix ⊢;simp only[c202,push_cast,seval,-Nat.reducePow];have hk0:¬((k:Nat):Int)<0:=by omega
   refine aAa hix (by rfl) (by rfl) ?_;simp only[push_cast,seval,-Nat.reducePow,hk0,hp];refine⟨by omega,aAx (λs1=>s1.env 4=.int .i64 k∧s1.env 5=.str q) ?_ λs1 hM=>?_⟩
   .rcases List.eq_nil_or_concat p with rfl|⟨u,x,rfl⟩
    .have:q=[]:=by rw[<-hq];rfl
     subst this;simp only[push_cast,seval,-Nat.reducePow]
     done
    .have hpl2:(u.concat x).length=u.length+1:=by simp
     have hpos:(0:Int)<((u.length:Nat):Int)+1:=by omega
     have hsb:((u.length:Nat):Int)+1-1=((u.length:Nat):Int):=by omega
     have hgx:(u.concat x).getD u.length 0=x:=by simp
     have htu:(u.concat x).take u.length=u:=by simp
     by_cases hx:x.toNat=32
     .have hx':((x.toNat:Nat):Int)=32:=by omega
      have:q=u:=by rw[<-hq,(eq32 x).2 hx];simp[unbl]
      subst this;simp only[push_cast,seval,-Nat.reducePow,hpl2,hpos,hsb,hgx,hx',htu];omega
     .have hx':¬((x.toNat:Nat):Int)=32:=by omega
      have hx2:¬x=32:=λe=>hx ((eq32 x).1 e);have:q=u.concat x:=by rw[<-hq];simp[unbl,hx2]
      subst this;simp only[push_cast,seval,-Nat.reducePow,hpl2,hpos,hsb,hgx,hx'];omega
   .obtain⟨j4,j5⟩:=hM;simp only[push_cast,seval,-Nat.reducePow,j4,j5];refine aAd (λm s1=>∃i,i<=6∧1<=i∧m=6-i∧nsF q 5 1=nsF q (6-i) i∧s1.env 4=.int .i64 k∧s1.env 5=.str q∧s1.env 6=.int .i64 i) 5 ⟨1,?_⟩ λm s1 hJ=>?_
    .simp only[push_cast,seval,-Nat.reducePow,j4,j5]
    .obtain⟨i,hi,hi1,rfl,hn2,j4,j5,j6⟩:=hJ;by_cases h:i<6
     .have h':((i:Nat):Int)<6:=by omega
      have hnx:=aSy q i h;rw[hnx]at hn2;simp only[push_cast,seval,-Nat.reducePow,j4,j5,j6,h'];refine aAa (t205 h205 i h) (by rfl) (by rfl) ?_;simp only[push_cast,seval,-Nat.reducePow,j4,j5,j6];refine aAa (t203 h203 h204 q (aHn i) (by omega) (aYw i h)) (by rfl) (by rfl) ?_;by_cases e:lowL q=lowL (aHn i)
      .rw[if_pos e]at hn2;have hn3:¬nsF q 5 1=0:=by omega
       rw[if_neg hn3,hn2];simp only[push_cast,seval,-Nat.reducePow,j4,j5,j6,e,view]
      .rw[if_neg e]at hn2;simp only[push_cast,seval,-Nat.reducePow,j4,j5,j6,e];exact⟨by omega,6-(i+1),by omega,i+1,by omega,by omega,rfl,hn2,by simp⟩
     .have h':¬((i:Nat):Int)<6:=by omega
      obtain rfl:i=6:=by omega
      have hn3:nsF q 5 1=0:=by rw[hn2];rfl
      simp only[push_cast,seval,-Nat.reducePow,j4,j5,j6,h',hn3,view]
theorem aYc{l:List (List UInt8)}{b:List UInt8}:((l++[b]).map V.str).getD l.length .junk=.str b:=by simp[zI]
theorem bDw{l:List (List UInt8)}{b c:List UInt8}:((l++[b]).map V.str).set l.length (.str c)=(l++[c]).map V.str:=by
 rw[yZ,xE _ _ (by simp)];simp
theorem t201(hf:bAt P F T)(s:List UInt8)(hs:s.length<=100000):PTr P (F 201) [.str s] (.lst 1 ((aAj s).map .str)):=by
 refine ptrC [] hf (by simp) (by simp[V.imm,aAp]) ?_;simp only[c201,push_cast,seval,-Nat.reducePow];refine aAd (λm s1=>∃i id,i<=s.length∧m=s.length-i∧s1.env 0=.str s∧s1.env 4=.int .i64 i∧s1.env 3=.own id 1 0 (aAj (s.take i)).length∧s1.L id=some (.vec (T 21) 1 ((aAj (s.take i)).map .str))∧id<s1.nx) s.length ⟨0,42,?_⟩ λm s1 hJ=>?_
 .simp only[push_cast,seval,-Nat.reducePow];exact⟨rfl,rfl,rfl⟩
 .obtain⟨i,id,hi,rfl,j0,j4,j3,jL,jn⟩:=hJ;have hpn:=aGb (s.take i);rw[yR]at hpn;by_cases h:i<s.length
  .have h':((i:Nat):Int)<((s.length:Nat):Int):=by omega
   obtain⟨c,hc⟩:∃c,s.getD i 0=c:=⟨_,rfl⟩;have hci:c=s[i]:=by rw[<-hc];simp[zI,h]
   have htk:s.take (i+1)=s.take i++[c]:=by rw[hci,<-xn (h:=h),yT]
   have hdt:(s.take (i+1)).drop i=[c]:=by rw[htk,wq (by rw[yR];omega)]
   by_cases b:c.toNat=47
   .have b':((c.toNat:Nat):Int)=47:=by omega
    have b3:c=47:=by rw[show c=UInt8.ofNat c.toNat by simp,b];rfl
    have hps:aAj (s.take (i+1))=aAj (s.take i)++[[]]:=by rw[htk,b3,aO3]
    have hlm:((aAj (s.take i)).map V.str).length=(aAj (s.take i)).length:=zb ..;have htl:zA (aAj (s.take i)).length ((aAj (s.take i)).map V.str)=(aAj (s.take i)).map V.str:=zj (by omega);simp only[push_cast,seval,-Nat.reducePow,j0,j4,j3,jL,h',hc,b',hlm,htl];refine⟨h,by omega,⟨by omega,by omega⟩,s.length-(i+1),by omega,i+1,s1.nx+92,by omega,rfl,by simp,by rw[hps];simp,?_,by omega⟩;rw[aAe,hps];simp
   .have b':¬((c.toNat:Nat):Int)=47:=by omega
    have b3:c≠47:=λe=>b (by rw[e];rfl);obtain⟨u,v,e1,e2⟩:=aKv b3 (s.take i);rw[e1]at j3 jL;have hul:(u++[v]).length=u.length+1:=by simp
    rw[hul]at j3;have hg:=aYc (l:=u) (b:=v);have hst:=bDw (l:=u) (b:=v) (c:=v++[c]);have hlm:((u++[v]).map V.str).length=u.length+1:=by simp
    rw[e1,yl]at hpn;simp only[List.length_cons,List.length_nil]at hpn;have hsb:((u.length:Nat):Int)+1-1=((u.length:Nat):Int):=by omega
    have hti:((i:Nat):Int)+1=((i+1:Nat):Int):=by omega
    have htn:(((i:Nat):Int)+1).toNat=i+1:=by omega
    have hvl:v.length<=100000:=by
     have:v∈aAj (s.take i):=by rw[e1];simp
     have:=aD6 v this;rw[yR]at this;omega
    simp only[push_cast,seval,-Nat.reducePow,j0,j4,j3,jL,h',hc,b',hlm,hsb,hg,hst,htn,hdt];have hrc:(V.str v).recell [V.str (v++[c])]=V.str (v++[c]):=rfl;rw[hrc,hst];refine⟨h,⟨by omega,by omega⟩,⟨by omega,by omega⟩,by omega,by omega,⟨by omega,by omega⟩,by omega,by omega,by omega,by omega,by omega,by omega,⟨by omega,by omega⟩,s.length-(i+1),by omega,i+1,id,by omega,rfl,by simp,?_,?_,by omega⟩
    .rw[htk,e2];simp
    .rw[aAe,htk,e2]
  .have h':¬((i:Nat):Int)<((s.length:Nat):Int):=by omega
   obtain rfl:i=s.length:=by omega
   rw[zu]at j3 jL;have hlm:((aAj s).map V.str).length=(aAj s).length:=zb ..;have htl:zA (aAj s).length ((aAj s).map V.str)=(aAj s).map V.str:=zj (by omega);simp only[push_cast,seval,-Nat.reducePow,j0,j4,j3,jL,h',hlm,htl];exact aB7 jL (aAp _) hlm.symm
theorem bUa(h102:aOs P F T)(c:UInt8):PTr P (F 102) [.str [60,62,91,93,123,125,124,35,95],.str [c],.int .i64 0] (.int .i64 (indexByte [60,62,91,93,123,125,124,35,95] c)):=by
 have hix:=t102 h102 [60,62,91,93,123,125,124,35,95] [c] 0 (by simp) (by omega) (by simp) (by simp);rw[aNv,yn]at hix;rw[aEz];cases hc:[60,62,91,93,123,125,124,35,95].findIdx? (·==c)with
 | none=>rw[hc]at hix;exact hix
 | some k=>rw[hc]at hix;exact hix
theorem t199(hf:bCh P F T)(h102:aOs P F T)(h201:bAt P F T)(h202:bCc P F T)(h203:aVj P F T)(h204:aQ3 P F T)(h205:aRe P F T)(sp:Int)(s:List UInt8)(hs:100<s.length∨s.length<=100000):PTr P (F 199) [ttV sp s] (.bool (aBb sp s)):=by
 refine ptrC [] hf (by simp) rfl ?_;by_cases a1:sp<0
 .have d1:¬0<=sp:=by omega
  simp only[c199,ttV,push_cast,seval,-Nat.reducePow,a1,view,aBb,d1,zi]
 by_cases a2:6<=sp
 .have d2:¬sp<6:=by omega
  simp only[c199,ttV,push_cast,seval,-Nat.reducePow,a1,a2,view,aBb,d2,zi,zT]
 by_cases a3:s.length<1
 .have d3:¬1<=s.length:=by omega
  have a3':((s.length:Nat):Int)<1:=by omega
  simp only[c199,ttV,push_cast,seval,-Nat.reducePow,a1,a2,a3',view,aBb,d3,zi,zT]
 have a3':¬((s.length:Nat):Int)<1:=by omega
 by_cases a4:100<s.length
 .have d4:¬s.length<=100:=by omega
  have a4':(100:Int)<((s.length:Nat):Int):=by omega
  simp only[c199,ttV,push_cast,seval,-Nat.reducePow,a1,a2,a3',a4',view,aBb,d4,zi,zT]
 have a4':¬(100:Int)<((s.length:Nat):Int):=by omega
 have hs:s.length<=100000:=by omega
 have e0:aBb sp s=(aD7 false s&&(aAj s).all aG7&&!aIn s&&(!decide (sp=0)||decide (aGl s=0))):=by
  have d1:0<=sp:=by omega
  have d2:sp<6:=by omega
  have d3:1<=s.length:=by omega
  have d4:s.length<=100:=by omega
  simp[aBb,d1,d2,d3,d4]
 rw[e0];simp only[c199,ttV,push_cast,seval,-Nat.reducePow,a1,a2,a3',a4'];refine aAd (λm s1=>∃i,i<=s.length∧m=s.length-i∧aD7 false s=aD7 (pbAt s i) (s.drop i)∧s1.env 3=.str s∧s1.env 4=.int .i64 i∧s1.env 1=.ptr 1 0∧s1.L 1=some (.box (T 17) [.int .i64 sp,.str s])) s.length ⟨0,?_⟩ λm s1 hJ=>?_
 .simp only[push_cast,seval,-Nat.reducePow];exact⟨rfl,rfl⟩
 .obtain⟨i,hi,rfl,hcl,j3,j4,j1,jL⟩:=hJ;by_cases h:i<s.length
  .have h':((i:Nat):Int)<((s.length:Nat):Int):=by omega
   rw[aMa s h]at hcl;have hib:=bUa h102 (s.getD i 0);have hhas:=bBv [60,62,91,93,123,125,124,35,95] (s.getD i 0);have hpb:pbAt s i=(decide (0<i)&&decide ((s.getD (i-1) 0).toNat=32)):=rfl;unfold badB at hcl;obtain⟨c,hc⟩:∃c,s.getD i 0=c:=⟨_,rfl⟩;rw[hc]at hib hhas hcl;have htn:(((i:Nat):Int)+1).toNat=i+1:=by omega
   have hdt:(s.take (i+1)).drop i=[c]:=by
    have e1:s.getD i 0=s[i]:=by simp[zI,h]
    rw[<-hc,e1,<-xn (h:=h),yT,wq (by rw[yR];omega)]
   by_cases b1:c.toNat<32
   .have b1':((c.toNat:Nat):Int)<32:=by omega
    simp only[push_cast,seval,-Nat.reducePow,j3,j4,j1,jL,h',hc,htn,hdt,b1',view,zi];rw[hcl];simp only[decide_eq_true b1,yM,zN,zi];exact⟨h,trivial⟩
   .have b1':¬((c.toNat:Nat):Int)<32:=by omega
    by_cases b2:c.toNat=127
    .have b2':((c.toNat:Nat):Int)=127:=by omega
     simp only[push_cast,seval,-Nat.reducePow,j3,j4,j1,jL,h',hc,htn,hdt,b1',b2',view,zi];rw[hcl];simp only[decide_eq_true b2,yM,xF,zN,zi];exact⟨h,h,trivial⟩
    .have b2':¬((c.toNat:Nat):Int)=127:=by omega
     simp only[push_cast,seval,-Nat.reducePow,j3,j4,j1,jL,h',hc,htn,hdt,b1',b2']
     repeat refine z8 (by omega) ?_
     refine aAa hib (by simp only[push_cast,seval,-Nat.reducePow]) (by simp only[push_cast,seval,-Nat.reducePow]) ?_;by_cases b3:0<=indexByte [60,62,91,93,123,125,124,35,95] c
     .have b3b:=hhas.1 b3;simp only[push_cast,seval,-Nat.reducePow,j3,j4,j1,jL,h',hc,htn,hdt,b3,view,zi];rw[hcl,b3b];simp only[xF,zN,zi]
     .have b3b:[60,62,91,93,123,125,124,35,95].contains c=false:=by
       cases hb:[60,62,91,93,123,125,124,35,95].contains c with
       | true=>exact absurd (hhas.2 hb) b3
       | false=>rfl
      have d1:decide (c.toNat<32)=false:=decide_eq_false b1;have d2:decide (c.toNat=127)=false:=decide_eq_false b2;rw[b3b,d1,d2]at hcl;by_cases b4:c.toNat=32
      .have b4':((c.toNat:Nat):Int)=32:=by omega
       have d4:decide (c.toNat=32)=true:=decide_eq_true b4;rw[d4]at hcl;by_cases b5:0<i
       .have b5':(0:Int)<((i:Nat):Int):=by omega
        have hi1:((i:Nat):Int)-1=((i-1:Nat):Int):=by omega
        obtain⟨I,hI⟩:∃I,I=i-1:=⟨_,rfl⟩;rw[<-hI]at hi1 hpb;rw[decide_eq_true b5,zy]at hpb;by_cases b6:(s.getD I 0).toNat=32
        .have b6':(((s.getD I 0).toNat:Nat):Int)=32:=by omega
         rw[decide_eq_true b6]at hpb;rw[hpb]at hcl;simp only[push_cast,seval,-Nat.reducePow,j3,j4,j1,jL,h',hc,htn,hdt,b3,b4',b5',hi1,b6',view,zi]
         repeat refine z8 (by omega) ?_
         rw[hcl];rfl
        .have b6':¬(((s.getD I 0).toNat:Nat):Int)=32:=by omega
         rw[decide_eq_false b6]at hpb;rw[hpb]at hcl;simp only[push_cast,seval,-Nat.reducePow,j3,j4,j1,jL,h',hc,htn,hdt,b3,b4',b5',hi1,b6']
         repeat refine z8 (by omega) ?_
         refine⟨s.length-(i+1),by omega,i+1,by omega,rfl,?_,by simp⟩;rw[hcl];rfl
       .have b5':¬(0:Int)<((i:Nat):Int):=by omega
        rw[decide_eq_false b5,zi]at hpb;rw[hpb]at hcl;simp only[push_cast,seval,-Nat.reducePow,j3,j4,j1,jL,h',hc,htn,hdt,b3,b4',b5']
        repeat refine z8 (by omega) ?_
        refine⟨s.length-(i+1),by omega,i+1,by omega,rfl,?_,by simp⟩;rw[hcl];rfl
      .have b4':¬((c.toNat:Nat):Int)=32:=by omega
       have d4:decide (c.toNat=32)=false:=decide_eq_false b4;rw[d4]at hcl;simp only[push_cast,seval,-Nat.reducePow,j3,j4,j1,jL,h',hc,htn,hdt,b3,b4']
       repeat refine z8 (by omega) ?_
       refine⟨s.length-(i+1),by omega,i+1,by omega,rfl,?_,by simp⟩;rw[hcl];rfl
  .have h':¬((i:Nat):Int)<((s.length:Nat):Int):=by omega
   obtain rfl:i=s.length:=by omega
   rw[aOt]at hcl;rw[hcl];simp only[push_cast,seval,-Nat.reducePow,j3,j4,j1,jL,h'];have him:=aAp (aAj s);have hln:((aAj s).map V.str).length=(aAj s).length:=zb ..;refine aAa (t201 h201 s hs) (by simp only[push_cast,seval,-Nat.reducePow]) (by simp only[push_cast,seval,-Nat.reducePow,him]) ?_;simp only[push_cast,seval,-Nat.reducePow,hln];refine aAd (λm s1=>∃i,i<=(aAj s).length∧m=(aAj s).length-i∧(aAj s).all aG7=((aAj s).drop i).all aG7∧s1.env 1=.ptr 1 0∧s1.env 3=.str s∧s1.env 5=.lst 1 ((aAj s).map V.str)∧s1.env 6=.int .i64 i∧s1.L 1=some (.box (T 17) [.int .i64 sp,.str s])) (aAj s).length ⟨0,?_⟩ λm s1 hJ=>?_
   .simp only[push_cast,seval,-Nat.reducePow,j3,j1,jL];rfl
   .obtain⟨i,hi,rfl,hn,j1,j3,j5,j6,jL⟩:=hJ;by_cases h:i<(aAj s).length
    .have h':((i:Nat):Int)<(((aAj s).length:Nat):Int):=by omega
     have hg:=aEe h;have hpn:=aGb s;rw[aS2 aG7 [] h]at hn;obtain⟨p,hp⟩:∃p,(aAj s).getD i []=p:=⟨_,rfl⟩;have hpl:p.length<=s.length:=by
      have:p∈aAj s:=by rw[<-hp];simp[zI,h]
      exact aD6 p this
     rw[hp]at hg hn;by_cases b1:p=[]
     .have hgo:aG7 p=false:=by rw[b1];rfl
      rw[hgo,zi]at hn;simp only[push_cast,seval,-Nat.reducePow,j1,j3,j5,j6,jL,h',hln,hg,b1,view,hn,zi];exact h
     .have b1p:0<p.length:=xM.2 b1;obtain⟨c,hc⟩:∃c,p.getD 0 0=c:=⟨_,rfl⟩;obtain⟨d,hd⟩:∃d,p.getD (p.length-1) 0=d:=⟨_,rfl⟩;have hd2:(((p.length:Nat):Int)-1).toNat=p.length-1:=by omega
      have hgo:aG7 p=(!decide (c=32)&&!decide (d=32)):=by simp only[aG7,b1,hc,hd,decide_false,zW,zy]
      by_cases b2:c.toNat=32
      .have b2':((c.toNat:Nat):Int)=32:=by omega
       rw[decide_eq_true ((eq32 c).2 b2),zN,zi]at hgo;rw[hgo,zi]at hn;simp only[push_cast,seval,-Nat.reducePow,j1,j3,j5,j6,jL,h',hln,hg,b1,hc,b2',view,hn,zi];exact⟨h,h,b1p⟩
      .have b2':¬((c.toNat:Nat):Int)=32:=by omega
       rw[decide_eq_false (λe=>b2 ((eq32 c).1 e)),zW,zy]at hgo;by_cases b3:d.toNat=32
       .have b3':((d.toNat:Nat):Int)=32:=by omega
        rw[decide_eq_true ((eq32 d).2 b3),zN]at hgo;rw[hgo,zi]at hn;simp only[push_cast,seval,-Nat.reducePow,j1,j3,j5,j6,jL,h',hln,hg,b1,hc,b2',hd2,hd,b3',view,hn,zi];exact⟨h,h,b1p,h,h,by omega,by omega,by omega⟩
       .have b3':¬((d.toNat:Nat):Int)=32:=by omega
        rw[decide_eq_false (λe=>b3 ((eq32 d).1 e)),zW]at hgo;rw[hgo,zy]at hn;simp only[push_cast,seval,-Nat.reducePow,j1,j3,j5,j6,jL,h',hln,hg,b1,hc,b2',hd2,hd,b3'];exact⟨h,h,b1p,h,h,by omega,by omega,by omega,⟨by omega,by omega⟩,(aAj s).length-(i+1),by omega,i+1,by omega,rfl,hn,by simp⟩
    .have h':¬((i:Nat):Int)<(((aAj s).length:Nat):Int):=by omega
     obtain rfl:i=(aAj s).length:=by omega
     simp only[yx,wb]at hn;rw[hn];have a3p:0<s.length:=by omega
     obtain⟨c,hc⟩:∃c,s.getD 0 0=c:=⟨_,rfl⟩;have hhd:aIn s=(decide (c.toNat=58)||(decide (97<=c.toNat)&&decide (c.toNat<=122))):=by rw[aIn,hc]
     by_cases b1:c.toNat=58
     .have b1':((c.toNat:Nat):Int)=58:=by omega
      have hh:aIn s=true:=by rw[hhd,decide_eq_true b1];rfl
      simp only[push_cast,seval,-Nat.reducePow,j1,j3,j5,j6,jL,h',hln,hc,b1',hh,view,zN,zT,zi]
      (repeat' apply z8)<;>first|exact a3p|trivial
     .have b1':¬((c.toNat:Nat):Int)=58:=by omega
      by_cases b2:97<=c.toNat∧c.toNat<=122
      .have b2':(97:Int)<=((c.toNat:Nat):Int):=by omega
       have b3':((c.toNat:Nat):Int)<=122:=by omega
       have hh:aIn s=true:=by rw[hhd,decide_eq_true b2.1,decide_eq_true b2.2,xH,xF]
       simp only[push_cast,seval,-Nat.reducePow,j1,j3,j5,j6,jL,h',hln,hc,b1',b2',b3',hh,view,zN,zT,zi]
       (repeat' apply z8)<;>first|exact a3p|trivial
      .have hh:aIn s=false:=by
        rw[hhd,decide_eq_false b1,yw];by_cases e:97<=c.toNat
        .rw[decide_eq_false (λe2=>b2 ⟨e,e2⟩),zT]
        .rw[decide_eq_false e,zi]
       rw[hh];have hpre:=t202 h202 h102 h203 h204 h205 s (by omega);obtain⟨y,hpv⟩:=bC0 s;rw[hpv]at hpre;by_cases e:97<=c.toNat
       .have b2':(97:Int)<=((c.toNat:Nat):Int):=by omega
        have b3':¬((c.toNat:Nat):Int)<=122:=by omega
        simp only[push_cast,seval,-Nat.reducePow,j1,j3,j5,j6,jL,h',hln,hc,b1',b2',b3']
        repeat refine z8 a3p ?_
        refine aAa hpre (by simp only[push_cast,seval,-Nat.reducePow]) (by simp only[push_cast,seval,-Nat.reducePow]) ?_;by_cases e5:sp=0
        .simp only[push_cast,seval,-Nat.reducePow,j1,j3,j5,j6,jL,e5,view,zN,zW,yM,yw,yX];rw[show decide (((aGl s:Nat):Int)=0)=decide (aGl s=0)from decide_eq_decide.2 (by omega)]
        .simp only[push_cast,seval,-Nat.reducePow,j1,j3,j5,j6,jL,e5,view,zN,zW,yM,yw,yX]
       .have b2':¬(97:Int)<=((c.toNat:Nat):Int):=by omega
        simp only[push_cast,seval,-Nat.reducePow,j1,j3,j5,j6,jL,h',hln,hc,b1',b2']
        repeat refine z8 a3p ?_
        refine aAa hpre (by simp only[push_cast,seval,-Nat.reducePow]) (by simp only[push_cast,seval,-Nat.reducePow]) ?_;by_cases e5:sp=0
        .simp only[push_cast,seval,-Nat.reducePow,j1,j3,j5,j6,jL,e5,view,zN,zW,yM,yw,yX];rw[show decide (((aGl s:Nat):Int)=0)=decide (aGl s=0)from decide_eq_decide.2 (by omega)]
        .simp only[push_cast,seval,-Nat.reducePow,j1,j3,j5,j6,jL,e5,view,zN,zW,yM,yw,yX]
theorem t200(hf:bEv P F T){sp:Int}{s:List UInt8}(h199:PTr P (F 199) [ttV sp s] (.bool true))(hs:s.length<=100000):
 PTr P (F 200) [ttV sp s] (.lst 2 (ancV sp (anc sp s s.length))):=by
 refine ptrC [] hf (by simp) (by simp[V.imm,aNu]) ?_;simp only[c200,push_cast,seval,-Nat.reducePow,ttV]at h199 ⊢;refine aAa h199 (by simp only[push_cast,seval,-Nat.reducePow]) (by simp only[push_cast,seval,-Nat.reducePow]) ?_;simp only[push_cast,seval,-Nat.reducePow];refine aAd (λm s1=>∃i id,i<=s.length∧m=s.length-i∧s1.env 1=.ptr 1 0∧s1.L 1=some (.box (T 17) [.int .i64 sp,.str s])∧s1.env 4=.int .i64 i∧2<=id∧id<s1.nx∧s1.env 3=.own id 2 0 (anc sp s i).length∧s1.L id=some (.vec (T 17) 2 (ancV sp (anc sp s i)))) s.length ⟨0,93,?_⟩ λm s1 hJ=>?_
 .simp only[push_cast,seval,-Nat.reducePow];exact⟨rfl,rfl,rfl⟩
 .obtain⟨i,id,hi,rfl,j1,jB,j4,jd,jd2,j3,jO⟩:=hJ;have hne:1≠id:=by omega
  by_cases h:i<s.length
  .have h':((i:Nat):Int)<((s.length:Nat):Int):=by omega
   have ham:=aId sp s i;have has:=aNo sp s i;obtain⟨c,hc⟩:∃c,s.getD i 0=c:=⟨_,rfl⟩;rw[hc]at has;by_cases b:c.toNat=47
   .have b':((c.toNat:Nat):Int)=47:=by omega
    have hlen:(ancV sp (anc sp s i)).length=(anc sp s i).length:=aDt _ _;have htk:zA (anc sp s i).length (ancV sp (anc sp s i))=ancV sp (anc sp s i):=zj (by omega);have b3:c=47:=by rw[show c=UInt8.ofNat c.toNat by simp,b];rfl
    rw[if_pos b3]at has;simp only[push_cast,seval,-Nat.reducePow,j1,jB,j4,j3,jO,h',hc,b',hne,hlen,htk];have hap:ancV sp (anc sp s i)++[V.agg [V.int IntKind.i64 sp,V.str (zA i s)]]=ancV sp (anc sp s (i+1)):=by rw[has];simp[ancV]
    have hl2:(anc sp s (i+1)).length=(anc sp s i).length+1:=by rw[has];simp
    rw[hap]
    repeat refine z8 (by omega) ?_
    exact⟨s.length-(i+1),by omega,i+1,s1.nx+91,by omega,rfl,by simp,by omega,by omega,by rw[hl2],aAe _ _ _⟩
   .have b':¬((c.toNat:Nat):Int)=47:=by omega
    have b3:¬c=47:=λe=>b (by rw[e];rfl);rw[if_neg b3,yh]at has;simp only[push_cast,seval,-Nat.reducePow,j1,jB,j4,j3,jO,h',hc,b',hne];refine⟨h,⟨by omega,by omega⟩,s.length-(i+1),by omega,i+1,id,by omega,rfl,by simp,by omega,by omega,by rw[has],by rw[has];exact jO⟩
  .have h':¬((i:Nat):Int)<((s.length:Nat):Int):=by omega
   obtain rfl:i=s.length:=by omega
   simp only[push_cast,seval,-Nat.reducePow,j1,jB,j4,j3,jO,h'];exact aB7 jO (aNu _ _) (aDt _ _).symm
theorem t194(hf:bHd P F T)(h200:bEv P F T){sp:Int}{s:List UInt8}(h199:PTr P (F 199) [ttV sp s] (.bool true))(hs:s.length<=90000):
 PTr P (F 194) [ttV sp s] (.lst 3 (scV (levF sp s))):=by
 refine ptrC [] hf (by simp) (by simp[V.imm,aH7]) ?_;obtain⟨A,hA⟩:∃A,anc sp s s.length=A:=⟨_,rfl⟩;have hAl:A.length<=90000:=by have:=aId sp s s.length;rw[hA]at this;omega
 have hlev:levF sp s=pgS sp s::(A.reverse.map (pgS sp))++[⟨2,sp,[]⟩,⟨1,0,[]⟩]:=by rw[levF,hA];rfl
 have h200':=t200 h200 h199 (by omega);rw[hA]at h200';have hai:=aNu sp A;have hal:(ancV sp A).length=A.length:=aDt _ _;simp only[c194,push_cast,seval,-Nat.reducePow,ttV]at h200' ⊢;refine aAa h200' (by simp only[push_cast,seval,-Nat.reducePow]) (by simp only[push_cast,seval,-Nat.reducePow,hai]) ?_;simp only[push_cast,seval,-Nat.reducePow,hal];refine⟨⟨by omega,by omega⟩,?_⟩;refine aAd (λm s1=>∃n id3,n<=A.length∧m=n∧s1.env 1=.ptr 1 0∧s1.L 1=some (.box (T 17) [.int .i64 sp,.str s])∧s1.env 4=.lst 2 (ancV sp A)∧s1.env 5=.int .i64 ((n:Int)-1)∧s1.env 3=.own id3 3 0 (A.length-n+1)∧s1.L id3=some (.vec (T 18) 3 (scV (pgS sp s::(A.drop n).reverse.map (pgS sp))))∧id3<s1.nx∧id3≠1∧2<=s1.nx) A.length ⟨A.length,42,?_⟩ λm s1 hJ=>?_
 .simp only[push_cast,seval,-Nat.reducePow];refine⟨by rw[Nat.sub_self],?_⟩;rw[yx];rfl
 .obtain⟨n,id3,hn,rfl,j1,jB,j4,j5,j3,jO,k1,k2,k3⟩:=hJ;have hsl:(scV (pgS sp s::(A.drop m).reverse.map (pgS sp))).length=A.length-m+1:=by rw[aIt];simp
  have htk:zA (A.length-m+1) (scV (pgS sp s::(A.drop m).reverse.map (pgS sp)))=scV (pgS sp s::(A.drop m).reverse.map (pgS sp)):=zj (by omega);have k1n:1≠id3:=λe=>k2 e.symm;cases m with
  | zero =>
    rw[yn,Nat.sub_zero]at *;simp only[push_cast,seval,-Nat.reducePow,j1,jB,j4,j5,j3,jO,hsl,htk,k1n];have hx:scV (pgS sp s::A.reverse.map (pgS sp))++[V.agg [V.int IntKind.i64 2,V.int IntKind.i64 sp,V.str []],V.agg [V.int IntKind.i64 1,V.int IntKind.i64 0,V.str []]]=scV (levF sp s):=by rw[hlev];simp[scV,Scp.v]
    rw[hx];have hll:(levF sp s).length=A.length+3:=by rw[hlev];simp
    refine⟨by omega,?_⟩;exact aB7 (aAe _ _ _) (aH7 _) (by rw[aIt,hll])
  | succ k =>
    have h5:((k+1:Nat):Int)-1=((k:Nat):Int):=by omega
    rw[h5]at j5;have hg:=aKp sp (l:=A) (i:=k) (by omega);simp only[push_cast,seval,-Nat.reducePow,j1,jB,j4,j5,j3,jO,hsl,htk,hal,hg,k1n];have hs3:=aS0 (pgS sp s::(A.drop (k+1)).reverse.map (pgS sp)) (pgS sp (A.getD k []));have hkA:k<A.length:=by omega
    have hs4:pgS sp s::(A.drop (k+1)).reverse.map (pgS sp)++[pgS sp (A.getD k [])]=pgS sp s::(A.drop k).reverse.map (pgS sp):=by
     have er:A.getD k []=A[k]:=by simp[zI,hkA]
     rw[er,zH hkA,List.reverse_cons,yZ];rfl
    rw[hs4]at hs3;simp only[pgS]at hs3 ⊢;rw[hs3];exact⟨by omega,by omega,⟨by omega,by omega⟩,k,by omega,k,s1.nx+59,by omega,rfl,rfl,by congr 1;omega,aAe _ _ _,by omega,by omega⟩
theorem t192(hf:bMj P F T){sp:Int}{s:List UInt8}{g:List (List UInt8)}(h199:PTr P (F 199) [ttV sp s] (.bool (aBb sp s)))(h194:aBb sp s=true->PTr P (F 194) [ttV sp s] (.lst 3 (scV (levF sp s))))(h195:∀a b:Scp,PTr P (F 195) [a.v,b.v] (.bool (covB a b)))(h193:∀x,PTr P (F 193) [.lst 1 (g.map .str),.str x] (.bool (g.contains x)))
 (gv:List V) (rs:List Rul) (dv:List V) (hgv:V.imms gv=true) (hdv:V.imms dv=true) (hrs:rs.length<=2^60) (right:Int) :
 PTr P (F 192) [polV gv rs dv,.lst 1 (g.map .str),.int .i64 right,ttV sp s] (.bool (mayF rs g right sp s)):=by
 refine ptrC [] hf (by simp) rfl ?_;have hri:=aBv rs;have hgi:=aAp g;have hrl:=aE7 rs;simp only[c192,push_cast,seval,-Nat.reducePow,polV,ttV,hgv,hdv,hri]at h199 h194 ⊢;refine aAa h199 (by rfl) (by rfl) ?_;by_cases hv:aBb sp s=true
 rotate_left
 .have hv':aBb sp s=false:=by grind
  simp only[push_cast,seval,-Nat.reducePow,hv',view,mayF,zi]
 by_cases a1:right<1
 .have d1:¬1<=right:=by omega
  simp only[push_cast,seval,-Nat.reducePow,hv,a1,d1,view,mayF,zy,zi]
 by_cases a2:5<right
 .have d2:¬right<=5:=by omega
  simp only[push_cast,seval,-Nat.reducePow,hv,a1,a2,d2,view,mayF,zy,zi,zT]
 have d1:1<=right:=by omega
 have d2:right<=5:=by omega
 have hm:mayF rs g right sp s=mayL rs g right (levF sp s):=by simp only[mayF,hv,d1,d2,decide_true,zy]
 rw[hm];simp only[push_cast,seval,-Nat.reducePow,hv,a1,a2];refine aAa (h194 hv) (by rfl) (by simp only[push_cast,seval,-Nat.reducePow,aH7]) ?_;have hsl:=aHw hv;have hll:=aUb sp s;obtain⟨LV,hLV⟩:∃LV,levF sp s=LV:=⟨_,rfl⟩;rw[hLV]at hll ⊢;have hlen:(scV LV).length=LV.length:=aIt LV;simp only[push_cast,seval,-Nat.reducePow,hlen];refine aAd (λm s1=>∃i,i<=LV.length∧m=LV.length-i∧mayL rs g right LV=mayL rs g right (LV.drop i)∧s1.env 1=.lst 1 (g.map .str)∧s1.env 2=.int .i64 right∧s1.env 4=.ptr 4 0∧s1.L 4=some (.box (T 16) [.lst 2 gv,.lst 6 (ruV rs),.lst 5 dv])∧s1.env 9=.lst 3 (scV LV)∧s1.env 10=.int .i64 i∧5<=s1.nx) LV.length ⟨0,?_⟩ λm s1 hJ=>?_
 .simp only[push_cast,seval,-Nat.reducePow];rfl
 .obtain⟨i,hi,rfl,hma,j1,j2,j4,jB,j9,j10,jn⟩:=hJ;by_cases h:i<LV.length
  .have h':((i:Nat):Int)<((LV.length:Nat):Int):=by omega
   obtain⟨lv,hlv,hg⟩:=bF9 h;have hdr:=aNc hlv;rw[hdr,mayL]at hma;simp only[push_cast,seval,-Nat.reducePow,j1,j2,j4,jB,j9,j10,h',hlen,hg];refine aAd (λm2 s2=>∃k a b,k<=rs.length∧m2=rs.length-k∧aJt g right lv rs (false,true)=aJt g right lv (rs.drop k) (a,b)∧s2.env 1=.lst 1 (g.map .str)∧s2.env 2=.int .i64 right∧s2.env 4=.ptr 4 0∧s2.L 4=some (.box (T 16) [.lst 2 gv,.lst 6 (ruV rs),.lst 5 dv])∧s2.env 9=.lst 3 (scV LV)∧s2.env 10=.int .i64 i∧s2.env 11=.bool a∧s2.env 12=.bool b∧s2.env 13=.int .i64 k∧5<=s2.nx) rs.length ⟨0,false,true,?_⟩ λm2 s2 hK=>?_
   .simp only[push_cast,seval,-Nat.reducePow,j1,j2,j4,jB,j9,j10,hrl];rfl
   .obtain⟨k,a,b,hk,rfl,hat,k1,k2,k4,kB,k9,k10,k11,k12,k13,kn⟩:=hK;have p4:4≠s2.nx+86:=by omega
    by_cases e:k<rs.length
    .have e':((k:Nat):Int)<((rs.length:Nat):Int):=by omega
     obtain⟨r,hr,hgr⟩:=bGl e;have hdk:=aNc hr;rw[hdk,aJt]at hat;by_cases e1:r.ri=right
     rotate_left
     .have hh:hitB g right lv r=false:=by simp[hitB,e1]
      rw[hh]at hat;simp only[push_cast,seval,-Nat.reducePow,k1,k2,k4,kB,k9,k10,k11,k12,k13,hlen,hg,e',hrl,hgr,e1,p4];grind
     .simp only[push_cast,seval,-Nat.reducePow,k1,k2,k4,kB,k9,k10,k11,k12,k13,hlen,hg,e',hrl,hgr,e1,p4];refine⟨e,aAa (h193 r.gr) (by simp only[push_cast,seval,-Nat.reducePow,hgi]) (by rfl) ?_⟩;cases e2:g.contains r.gr with
      | false =>
        have hh:hitB g right lv r=false:=by simp only[hitB,e2,zT,zi]
        rw[hh]at hat;simp only[push_cast,seval,-Nat.reducePow,k1,k2,k4,kB,k9,k10,k11,k12,k13,hlen,hg,p4];grind
      | true =>
        simp only[push_cast,seval,-Nat.reducePow,k1,k2,k4,kB,k9,k10,k11,k12,k13,hlen,hg,p4]
        repeat refine z8 (by omega) ?_
        refine aAa (h195 r.sc lv) (by rfl) (by rfl) ?_;have hh:hitB g right lv r=covB r.sc lv:=by simp only[hitB,e1,e2,decide_true,zy]
        rw[hh]at hat;cases e3:covB r.sc lv with
        | false=>rw[e3]at hat;simp only[push_cast,seval,-Nat.reducePow,k1,k2,k4,kB,k9,k10,k11,k12,k13,hlen,hg,p4];grind
        | true =>
          rw[e3]at hat;cases b with
          | false=>simp only[push_cast,seval,-Nat.reducePow,k1,k2,k4,kB,k9,k10,k11,k12,k13,hlen,hg,p4];grind
          | true=>simp only[push_cast,seval,-Nat.reducePow,k1,k2,k4,kB,k9,k10,k11,k12,k13,hlen,hg,p4];grind
    .have e':¬((k:Nat):Int)<((rs.length:Nat):Int):=by omega
     obtain rfl:k=rs.length:=by omega
     rw[yx,aJt]at hat;rw[hat]at hma;cases a with
     | true=>simp only[push_cast,seval,-Nat.reducePow,k1,k2,k4,kB,k9,k10,k11,k12,k13,hlen,hg,hrl,e',view];grind
     | false=>simp only[push_cast,seval,-Nat.reducePow,k1,k2,k4,kB,k9,k10,k11,k12,k13,hlen,hg,hrl,e'];exact⟨⟨by omega,by omega⟩,LV.length-(i+1),by omega,i+1,by omega,rfl,hma,by simp⟩
  .have h':¬((i:Nat):Int)<((LV.length:Nat):Int):=by omega
   obtain rfl:i=LV.length:=by omega
   rw[yx,mayL]at hma;simp only[push_cast,seval,-Nat.reducePow,j1,j2,j4,jB,j9,j10,h',hlen,hma,view]
end Go.Ab
