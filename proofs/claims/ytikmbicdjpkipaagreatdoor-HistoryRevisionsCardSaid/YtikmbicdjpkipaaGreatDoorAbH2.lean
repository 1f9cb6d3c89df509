import Derived.Test.YtikmbicdjpkipaaGreatDoorAbH1
import Derived.Test.YtikmbicdjpkipaaGreatDoorAbC2
open List renaming take_length->zu,findIdx?_cons->yG,takeWhile_cons->yv,dropWhile_cons->zO,contains_cons->wL,mem_cons->zD,mem_append->zP,mem_singleton->zp,map->zw
open Bool renaming and_self->zn,false_or->yw
open Option.some renaming inj->zq
set_option linter.unusedSimpArgs false
set_option linter.unusedVariables false
namespace Go.Ab
open Go.Lib
variable {P:Program} {F T:Nat->Nat}
def svO(z n:Nat):Option Nat->V
 | none=>.nils
 | some i=>.own i z 0 n
structure PolM(T:Nat->Nat)(L:Heap)(b:Nat)(og or od:Option Nat)(p:Pol):Prop where
 at_:L b=some (.box (T 16) [svO 2 p.g.length og,svO 6 p.r.length or,svO 5 p.d.length od])
 g:∀i,og=some i->L i=some (.vec (T 22) 2 (grV p.g))∧i≠b
 r:∀i,or=some i->L i=some (.vec (T 19) 6 (ruV p.r))∧i≠b
 d:∀i,od=some i->L i=some (.vec (T 20) 5 (gdV p.d))∧i≠b
 g0:og=none->p.g=[]
 r0:or=none->p.r=[]
 d0:od=none->p.d=[]
 gn:∀i,og=some i->p.g≠[]
 rn:∀i,or=some i->p.r≠[]
 dn:∀i,od=some i->p.d≠[]
 gr:∀i,og=some i->or≠some i∧od≠some i
 rd:∀i,or=some i->od≠some i
def PolK(L L':Heap)(nx b:Nat)(og or od:Option Nat):Prop:=∀i,i<nx->i≠b->og≠some i->or≠some i->od≠some i->L' i=L i
def lowO(nx:Nat)(o:Option Nat):Prop:=∀i,o=some i->i<nx
theorem PolM.mkG{L L':Heap}{nx b k:Nat}{og or od:Option Nat}{p:Pol}(hp:PolM T L b og or od p)(hb:b<nx)(hk:nx<=k)(hr:lowO nx or)(hd:lowO nx od)(x:Gro)(h1:L' b=some (.box (T 16) [.own k 2 0 (p.g.length+1),svO 6 p.r.length or,svO 5 p.d.length od]))(h2:L' k=some (.vec (T 22) 2 (grV p.g++[x.v])))(h3:∀i,i<nx->i≠b->og≠some i->L' i=L i):PolM T L' b (some k) or od { p with g:=p.g++[x] }:=by
 refine⟨by rw[h1];simp[svO],λi h=>?_,λi h=>?_,λi h=>?_,(λh=>nomatch h),hp.r0,hp.d0,λ_ _=>by simp,hp.rn,hp.dn,λi h=>?_,hp.rd⟩
 .cases h;rw[h2];exact⟨by simp[grV],by omega⟩
 .obtain⟨k1,k2⟩:=hp.r i h;rw[h3 i (hr i h) k2 λe=>(hp.gr i e).1 h];exact⟨k1,k2⟩
 .obtain⟨k1,k2⟩:=hp.d i h;rw[h3 i (hd i h) k2 λe=>(hp.gr i e).2 h];exact⟨k1,k2⟩
 .cases h;exact⟨λh=>by have:=hr _ h;omega,λh=>by have:=hd _ h;omega⟩
theorem PolM.mkR{L L':Heap}{nx b k:Nat}{og or od:Option Nat}{p:Pol}(hp:PolM T L b og or od p)(hb:b<nx)(hk:nx<=k)(hg:lowO nx og)(hd:lowO nx od)(x:Rul)(h1:L' b=some (.box (T 16) [svO 2 p.g.length og,.own k 6 0 (p.r.length+1),svO 5 p.d.length od]))(h2:L' k=some (.vec (T 19) 6 (ruV p.r++[x.v])))(h3:∀i,i<nx->i≠b->or≠some i->L' i=L i):PolM T L' b og (some k) od { p with r:=p.r++[x] }:=by
 refine⟨by rw[h1];simp[svO],λi h=>?_,λi h=>?_,λi h=>?_,hp.g0,(λh=>nomatch h),hp.d0,hp.gn,λ_ _=>by simp,hp.dn,λi h=>⟨λe=>?_,(hp.gr i h).2⟩,λi h=>?_⟩
 .obtain⟨k1,k2⟩:=hp.g i h;rw[h3 i (hg i h) k2 (hp.gr i h).1];exact⟨k1,k2⟩
 .cases h;rw[h2];exact⟨by simp[ruV],by omega⟩
 .obtain⟨k1,k2⟩:=hp.d i h;rw[h3 i (hd i h) k2 λe=>hp.rd i e h];exact⟨k1,k2⟩
 .have:=hg i h;cases e;omega
 .cases h;exact λh=>by have:=hd _ h;omega
theorem PolM.mkD{L L':Heap}{nx b k:Nat}{og or od:Option Nat}{p:Pol}(hp:PolM T L b og or od p)(hb:b<nx)(hk:nx<=k)(hg:lowO nx og)(hr:lowO nx or)(x:Grd)(h1:L' b=some (.box (T 16) [svO 2 p.g.length og,svO 6 p.r.length or,.own k 5 0 (p.d.length+1)]))(h2:L' k=some (.vec (T 20) 5 (gdV p.d++[x.v])))(h3:∀i,i<nx->i≠b->od≠some i->L' i=L i):PolM T L' b og or (some k) { p with d:=p.d++[x] }:=by
 refine⟨by rw[h1];simp[svO],λi h=>?_,λi h=>?_,λi h=>?_,hp.g0,hp.r0,(λh=>nomatch h),hp.gn,hp.rn,λ_ _=>by simp,λi h=>⟨(hp.gr i h).1,λe=>?_⟩,λi h e=>?_⟩
 .obtain⟨k1,k2⟩:=hp.g i h;rw[h3 i (hg i h) k2 (hp.gr i h).2];exact⟨k1,k2⟩
 .obtain⟨k1,k2⟩:=hp.r i h;rw[h3 i (hr i h) k2 (hp.rd i h)];exact⟨k1,k2⟩
 .cases h;rw[h2];exact⟨by simp[gdV],by omega⟩
 .have:=hg i h;cases e;omega
 .have:=hr i h;cases e;omega
theorem t397(hf:bDp P F T)(h396:aQ6 P F T)(S:PolL P F){L:Heap}{nx b:Nat}{og or od:Option Nat}{p:Pol}(hp:PolM T L b og or od p)(hb:b<nx)(hg:lowO nx og)(hr:lowO nx or)(hd:lowO nx od)(hl:p.g.length<=2^30)(s:List UInt8)(hs:s.length<=8192):
 ECall P (F 397) [.ptr b 0,.str s] L nx λv L' nx'=>v=.bool (!decide ((aAr s).1=[]))∧∃i,nx<=i∧i<nx'∧PolM T L' b (some i) or od { p with g:=p.g++[⟨(aAr s).1,aAn [] (aAr s).2⟩] }∧PolK L L' nx b og or od:=by
 have hn:=aCs s;have h1:(V.lst 1 ((aAn [] (aAr s).2).map .str)).one=true:=rfl;have h2:(V.lst 1 ((aAn [] (aAr s).2).map .str)).cells=[V.lst 1 ((aAn [] (aAr s).2).map .str)]:=rfl;have h3:(V.lst 1 ((aAn [] (aAr s).2).map .str)).ncells=some 1:=rfl;refine aB0 [] hf (by simp) ?_;simp only[c397,push_cast,seval,-Nat.reducePow];refine aAa (t396 h396 S s hs) (by simp only[push_cast,seval,-Nat.reducePow]) (by simp only[push_cast,seval,-Nat.reducePow]) ?_;simp only[push_cast,seval,-Nat.reducePow];refine aAa (S.flds _ (by omega)) (by simp only[push_cast,seval,-Nat.reducePow]) (by simp only[V.imm,aAp]) ?_;have hat:=hp.at_;have nb:∀n,¬b=nx+n:=λn=>by omega
 cases og with
 | none =>
   simp only[svO]at hat;simp only[push_cast,seval,-Nat.reducePow,hat,h1,h2,h3];refine aEm ?_;simp only[push_cast,seval,-Nat.reducePow,hat,h1,h2,h3,nb];refine⟨by omega,by omega,nx+107,by omega,by omega,?_,?_⟩
   .refine hp.mkG hb (by omega) hr hd ⟨(aAr s).1,aAn [] (aAr s).2⟩ ?_ ?_ λi h1 h2 _=>?_
    .rw[aAe,hp.g0 rfl];rfl
    .rw[aAc _ _ _ _ (by omega),aAe,hp.g0 rfl];rfl
    .rw[aAc _ _ _ _ h2,aAc _ _ _ _ (by omega)]
   .intro i h1 h2 _ _ _;rw[aAc _ _ _ _ h2,aAc _ _ _ _ (by omega)]
 | some j =>
   simp only[svO]at hat;obtain⟨hj,hjb⟩:=hp.g j rfl;have hbj:¬b=j:=λe=>hjb e.symm;have htk:(grV p.g).take p.g.length=grV p.g:=by rw[<-aCx p.g,zu]
   simp only[push_cast,seval,-Nat.reducePow,hat,h1,h2,h3,hj,nb,hbj,htk];refine⟨by rw[aCx];exact Nat.le_refl _,by omega,by omega,nx+107,by omega,by omega,?_,?_⟩
   .refine hp.mkG hb (by omega) hr hd ⟨(aAr s).1,aAn [] (aAr s).2⟩ ?_ ?_ λi h1 h2 h3=>?_
    .rw[aAe];rfl
    .rw[aAc _ _ _ _ (by omega),aAe];rfl
    .rw[aAc _ _ _ _ h2,aAc _ _ _ _ (by omega),aAc _ _ _ _ (λe=>h3 (by rw[e]))]
   .intro i h1 h2 h3 _ _;rw[aAc _ _ _ _ h2,aAc _ _ _ _ (by omega),aAc _ _ _ _ (λe=>h3 (by rw[e]))]
def TitP(P:Program)(F:Nat->Nat):Prop:=∀s:List UInt8,s.length<=8192->PTr P (F 415) [.str s] (.tup [ttV (titF s).2.1 (titF s).2.2,.int .i64 (titF s).1])
theorem bMn(l:List (List UInt8))(x:List UInt8):ixS l x=ixI (l.findIdx? λy=>decide (y=x)):=by
 have e:(λy:List UInt8=>y==x)=λy=>decide (y=x):=by funext y;rw[Bool.eq_iff_iff];simp
 unfold ixS;rw[e];cases l.findIdx? λy=>decide (y=x)<;>rfl
theorem bA9(w:List UInt8):aCf w<=5:=by
 unfold aCf;cases h:aCm.findIdx? λx=>decide (x=w)with
 | none=>exact Nat.zero_le _
 | some i=>have:=(List.findIdx?_eq_some_iff_getElem.1 h).1;simp only[aCm,List.length_cons,List.length_nil]at this;simp only;omega
set_option maxHeartbeats 1000000 in
theorem t398(hf:bDt P F T)(h396:aQ6 P F T)(h413:aX0 P F T)(h414:aXm P F T)(h222:∀(l:List (List UInt8)) (x:List UInt8),l.length<=2^60->PTr P (F 222) [.lst 1 (l.map .str),.str x] (.int .i64 (ixS l x)))(S:PolL P F)(hT:TitP P F){L:Heap}{nx b:Nat}{og or od:Option Nat}{p:Pol}(hp:PolM T L b og or od p)(hb:b<nx)(hg:lowO nx og)(hr:lowO nx or)(hd:lowO nx od)(hl:p.r.length<=2^30)(s:List UInt8)(hs:s.length<=8192)(al:Bool):
 ECall P (F 398) [.ptr b 0,.str s,.bool al] L nx λv L' nx'=>(match rulS p s al with
  | none=>v=.bool false∧nx<=nx'∧PolK L L' nx b none none none∧L' b=L b
  | some q=>v=.bool true∧∃i,nx<=i∧i<nx'∧PolM T L' b og (some i) od q∧PolK L L' nx b og or od):=by
 have hn:=aCs s;have hn2:=aCs (aAr s).2;have nb:∀n,¬b=nx+n:=λn=>by omega
 unfold rulS;have hk1:=h222 aCm (aAr s).1 (by decide);have hri:ixS aCm (aAr s).1+1=((aCf (aAr s).1:Nat):Int):=by unfold aCf;rw[bMn];cases aCm.findIdx? λy=>decide (y=(aAr s).1)<;>simp[ixI]
 refine aB0 [] hf (by simp) ?_;simp only[c398,push_cast,seval,-Nat.reducePow];refine aAa (t396 h396 S s hs) (by simp only[push_cast,seval,-Nat.reducePow]) (by simp only[push_cast,seval,-Nat.reducePow]) ?_;simp only[push_cast,seval,-Nat.reducePow];refine aAa (t396 h396 S _ (by omega)) (by simp only[push_cast,seval,-Nat.reducePow]) (by simp only[push_cast,seval,-Nat.reducePow]) ?_;simp only[push_cast,seval,-Nat.reducePow];refine aAa (t413 h413) (by simp only[push_cast,seval,-Nat.reducePow]) (by simp only[V.imm,aAp]) ?_;refine aAa hk1 (by simp only[V.imms,V.imm,aAp,zn]) rfl ?_;simp only[push_cast,seval,-Nat.reducePow,hri];obtain⟨r3,hr3⟩:∃r,r=(aAr (aAr s).2).2:=⟨_,rfl⟩;obtain⟨rn,hrn⟩:∃r,r=(aAr (aAr s).2).1:=⟨_,rfl⟩;obtain⟨ri,hrr⟩:∃r,r=aCf (aAr s).1:=⟨_,rfl⟩;have hrl:r3.length<=8192:=by rw[hr3];omega
 have hr5:ri<=5:=by rw[hrr];exact bA9 _
 rw[<-hr3,<-hrn,<-hrr];refine⟨⟨by omega,by omega⟩,aAx (λs1=>ri≠0∧∃k,nx<=k∧k<s1.nx∧s1.env 0=.ptr b 0∧s1.env 9=.str r3∧s1.env 10=.ptr k 0∧s1.L k=some (.box (T 19) [.bool al,.int .i64 ri,.str rn,.int .i64 0,.int .i64 0,.str []])∧(∀i,i<nx->s1.L i=L i)∧nx<=s1.nx) ?_ ?_⟩
 .simp only[push_cast,seval,-Nat.reducePow];by_cases h0:ri=0
  .simp only[push_cast,seval,-Nat.reducePow,h0];refine⟨by omega,by omega,λi h1 h2 _ _ _=>?_,?_⟩
   .rw[aAc _ _ _ _ (by omega),aAc _ _ _ _ (by omega)]
   .rw[aAc _ _ _ _ (by omega),aAc _ _ _ _ (by omega)]
  .have h0':¬((ri:Nat):Int)=0:=by omega
   simp only[push_cast,seval,-Nat.reducePow,h0'];exact⟨h0,nx+211,by omega,by omega,rfl,aAe _ _ _,λi hi=>by rw[aAc _ _ _ _ (by omega),aAc _ _ _ _ (by omega)],by omega⟩
 .rintro s1 ⟨h0,k,k1,k2,j0,j9,j10,ek,fr,jn⟩;have nk:∀n,¬k=s1.nx+n:=λn=>by omega
  simp only[push_cast,seval,-Nat.reducePow,h0];refine aAx (λs2=>∃x,aEs r3=some x∧nx<=k∧k<s2.nx∧s2.env 0=.ptr b 0∧s2.env 10=.ptr k 0∧s2.L k=some (.box (T 19) [.bool al,.int .i64 ri,.str rn,.int .i64 x.k,.int .i64 x.sp,.str x.n])∧(∀i,i<nx->s2.L i=L i)∧nx<=s2.nx) ?_ ?_
  .by_cases ha:r3=wAll
   .have hsc:aEs r3=some ⟨1,0,[]⟩:=by unfold aEs;rw[if_pos ha]
    have ha':r3=[60,97,108,108,62]:=ha;simp only[push_cast,seval,-Nat.reducePow,j0,j9,j10,ek,ha'];exact⟨⟨1,0,[]⟩,ha'▸hsc,k1,by omega,rfl,λi hi=>by rw[aAc _ _ _ _ (by omega)];exact fr i hi,by omega⟩
   .have ha':¬r3=[60,97,108,108,62]:=ha;simp only[push_cast,seval,-Nat.reducePow,j0,j9,j10,ek,ha'];refine aAa (t414 h414) (by simp only[push_cast,seval,-Nat.reducePow]) (by simp only[V.imm,aAp]) ?_;simp only[push_cast,seval,-Nat.reducePow,j0,j9,j10,ek];refine aAa (h222 aC6 r3 (by decide)) (by simp only[V.imms,V.imm,aAp,zn]) rfl ?_;rw[bMn];cases hix:aC6.findIdx? λy=>decide (y=r3)with
    | some n =>
      have hsc:aEs r3=some ⟨2,n,[]⟩:=by unfold aEs;rw[if_neg ha,hix]
      simp only[push_cast,seval,-Nat.reducePow,ixI,j0,j9,j10,ek];exact⟨⟨2,n,[]⟩,hsc,k1,by omega,rfl,λi hi=>by rw[aAc _ _ _ _ (by omega)];exact fr i hi,by omega⟩
    | none =>
      simp only[push_cast,seval,-Nat.reducePow,ixI,j0,j9,j10,ek];refine aAa (hT r3 hrl) (by simp only[push_cast,seval,-Nat.reducePow]) (by simp only[push_cast,seval,-Nat.reducePow,ttV]) ?_;have hsc:aEs r3=if(titF r3).1=0 then some ⟨3,(titF r3).2.1,(titF r3).2.2⟩else none:=by unfold aEs;rw[if_neg ha,hix]
      by_cases he:(titF r3).1=0
      .rw[if_pos he]at hsc;simp only[push_cast,seval,-Nat.reducePow,ttV,j0,j9,j10,ek,he,nk];exact⟨⟨3,(titF r3).2.1,(titF r3).2.2⟩,hsc,k1,by omega,rfl,λi hi=>by rw[aAc _ _ _ _ (by omega),aAc _ _ _ _ (by omega),aAc _ _ _ _ (by omega)];exact fr i hi,by omega⟩
      .rw[if_neg he]at hsc;have he':¬(((titF r3).1:Nat):Int)=0:=by omega
       simp only[push_cast,seval,-Nat.reducePow,ttV,j0,j9,j10,ek,he',nk,hsc];refine⟨by omega,by omega,λi h1 h2 _ _ _=>?_,?_⟩
       .rw[aAc _ _ _ _ (by omega),aAc _ _ _ _ (by omega)];exact fr i h1
       .rw[aAc _ _ _ _ (by omega),aAc _ _ _ _ (by omega)];exact fr b hb
  .rintro s2 ⟨x,hsc,_,k2,j0,j10,ek,fr,jn⟩;have hat:=hp.at_;have ebb:s2.L b=L b:=fr b hb;rw[<-ebb]at hat;have nb2:∀n,¬b=s2.nx+n:=λn=>by omega
   simp only[push_cast,seval,-Nat.reducePow,hsc];cases or with
   | none =>
     simp only[svO]at hat;simp only[push_cast,seval,-Nat.reducePow,j0,j10,ek,hat];refine aEm ?_;simp only[push_cast,seval,-Nat.reducePow,j0,j10,ek,hat,nb2];refine⟨by omega,by omega,s2.nx+64,by omega,by omega,?_,?_⟩
     .refine hp.mkR hb (by omega) hg hd ⟨al,ri,rn,x⟩ ?_ ?_ λi h1 h2 _=>?_
      .rw[aAe,hp.r0 rfl];rfl
      .rw[aAc _ _ _ _ (by omega),aAe,hp.r0 rfl];rfl
      .rw[aAc _ _ _ _ h2,aAc _ _ _ _ (by omega)];exact fr i h1
     .intro i h1 h2 _ _ _;rw[aAc _ _ _ _ h2,aAc _ _ _ _ (by omega)];exact fr i h1
   | some j =>
     simp only[svO]at hat;obtain⟨hj,hjb⟩:=hp.r j rfl;have hjl:=hr j rfl;rw[<-fr j hjl]at hj;have hbj:¬b=j:=λe=>hjb e.symm;have htk:(ruV p.r).take p.r.length=ruV p.r:=by rw[<-aE7 p.r,zu]
     simp only[push_cast,seval,-Nat.reducePow,j0,j10,ek,hat,hj,nb2,hbj,htk];refine⟨by rw[aE7];exact Nat.le_refl _,by omega,by omega,s2.nx+64,by omega,by omega,?_,?_⟩
     .refine hp.mkR hb (by omega) hg hd ⟨al,ri,rn,x⟩ ?_ ?_ λi h1 h2 h3=>?_
      .rw[aAe];rfl
      .rw[aAc _ _ _ _ (by omega),aAe];rfl
      .rw[aAc _ _ _ _ h2,aAc _ _ _ _ (by omega),aAc _ _ _ _ (λe=>h3 (by rw[e]))];exact fr i h1
     .intro i h1 h2 _ h3 _;rw[aAc _ _ _ _ h2,aAc _ _ _ _ (by omega),aAc _ _ _ _ (λe=>h3 (by rw[e]))];exact fr i h1
def barT(s:List UInt8):List UInt8:=s.takeWhile (· != 124)
def barS(s:List UInt8):List UInt8:=(s.dropWhile (· != 124)).drop 1
theorem aN2:∀(s:List UInt8),(match s.findIdx? (·==124)with
 | none=>barT s=s∧barS s=[]∧s.contains 124=false
 | some i=>barT s=s.take i∧barS s=s.drop (i+1)∧s.contains 124=true)
 | []=>⟨rfl,rfl,rfl⟩
 | c::r=>by
   have ih:=aN2 r;by_cases hc:c=124
   .subst hc;simp[yG,barT,barS]
   .have h1:(c==124)=false:=by simpa using hc
    have h2:(c != 124)=true:=by simpa using hc
    have h3:((124:UInt8)==c)=false:=by simpa using λe:124=c=>hc e.symm
    rw[yG,h1];cases h:r.findIdx? (·==124)with
    | none=>rw[h]at ih;obtain⟨i1,i2,i3⟩:=ih;simp only[barT,barS]at i1 i2;simp only[barT,barS,yv,zO,h2,if_true,i1,i2,wL,h3,i3,yw];simp
    | some i=>rw[h]at ih;obtain⟨i1,i2,i3⟩:=ih;simp only[barT,barS]at i1 i2;simp only[barT,barS,yv,zO,h2,if_true,i1,i2,wL,h3,i3,yw];simp
theorem aJo(s:List UInt8):aLt s=if(titF (trW (barT s))).1=0∧¬(s.contains 124=true∧trW (barS s)=[])then some ((titF (trW (barT s))).2.1,(titF (trW (barT s))).2.2,trW (barS s))else none:=by
 have h:=aN2 s;unfold aLt;cases hf:s.findIdx? (·==124)with
 | none=>rw[hf]at h;obtain⟨h1,h2,h3⟩:=h;have e:trW ([]:List UInt8)=[]:=rfl;simp only[h1,h2,h3,e,Bool.false_eq_true,false_and,not_false_eq_true,and_true]
 | some i=>rw[hf]at h;obtain⟨h1,h2,h3⟩:=h;simp only[h1,h2,h3,true_and];by_cases a:trW (s.drop (i+1))=[]<;>by_cases b:(titF (trW (s.take i))).1=0<;>simp[a,b]
theorem aNb(s:List UInt8):(barT s).length<=s.length∧(barS s).length<=s.length:=by
 have h1:(barT s).length<=s.length:=(List.takeWhile_prefix _).length_le;have h2:(s.dropWhile (· != 124)).length<=s.length:=(List.dropWhile_suffix _).length_le;exact⟨h1,by unfold barS;rw[List.length_drop];omega⟩
set_option maxHeartbeats 1000000 in
theorem t399(hf:bCy P F T)(h396:aQ6 P F T)(S:PolL P F)(hT:TitP P F){L:Heap}{nx b:Nat}{og or od:Option Nat}{p:Pol}(hp:PolM T L b og or od p)(hb:b<nx)(hg:lowO nx og)(hr:lowO nx or)(hd:lowO nx od)(hl:p.d.length<=2^30)(s:List UInt8)(hs:s.length<=8192)(st:Bool):
 ECall P (F 399) [.ptr b 0,.str s,.bool st] L nx λv L' nx'=>(match grdS p s st with
  | none=>v=.bool false∧nx<=nx'∧PolK L L' nx b none none none∧L' b=L b
  | some q=>v=.bool true∧∃i,nx<=i∧i<nx'∧PolM T L' b og or (some i) q∧PolK L L' nx b og or od):=by
 have hn:=aCs s;have nb:∀n,¬b=nx+n:=λn=>by omega
 unfold grdS;rw[aJo];have hbl:=aNb (aAr s).2;have hc:=S.cut (aAr s).2 (by omega);refine aB0 [] hf (by simp) ?_;simp only[c399,push_cast,seval,-Nat.reducePow];refine aAa (t396 h396 S s hs) (by simp only[push_cast,seval,-Nat.reducePow]) (by simp only[push_cast,seval,-Nat.reducePow]) ?_;simp only[push_cast,seval,-Nat.reducePow];obtain⟨r,hrr⟩:∃r,r=(aAr s).2:=⟨_,rfl⟩;rw[<-hrr]at hbl hc ⊢;have hc':PTr P (F 172) [.str r,.str [124]] (.tup [.str (barT r),.str (barS r),.bool (r.contains 124)]):=hc;have hrl:r.length<=8192:=by rw[hrr];omega
 have t1:=aE1 (barT r);have t2:=aE1 (barS r);refine aAa hc' (by simp only[push_cast,seval,-Nat.reducePow]) (by simp only[push_cast,seval,-Nat.reducePow]) ?_;simp only[push_cast,seval,-Nat.reducePow];refine aAa (S.trim _ (by omega)) (by simp only[push_cast,seval,-Nat.reducePow]) rfl ?_;refine aAa (S.trim _ (by omega)) (by simp only[push_cast,seval,-Nat.reducePow]) rfl ?_;refine aAa (hT _ (by omega)) (by simp only[push_cast,seval,-Nat.reducePow]) (by simp only[push_cast,seval,-Nat.reducePow,ttV]) ?_;obtain⟨tt,htt⟩:∃x,x=titF (trW (barT r)):=⟨_,rfl⟩;obtain⟨sec,hsec⟩:∃x,x=trW (barS r):=⟨_,rfl⟩;rw[<-htt,<-hsec];simp only[push_cast,seval,-Nat.reducePow,ttV];refine aAx (λs1=>(tt.1=0∧¬(r.contains 124=true∧sec=[]))∧∃k,nx<=k∧k<s1.nx∧s1.env 0=.ptr b 0∧s1.env 2=.bool st∧s1.env 7=.str (aAr s).1∧s1.env 9=.str sec∧s1.env 11=.ptr k 0∧s1.L k=some (.box (T 17) [.int .i64 tt.2.1,.str tt.2.2])∧(∀i,i<nx->s1.L i=L i)∧nx<=s1.nx) ?_ ?_
 .simp only[push_cast,seval,-Nat.reducePow];by_cases he:tt.1=0
  .cases hc4:r.contains 124 with
   | false=>simp only[push_cast,seval,-Nat.reducePow,he];exact⟨λh=>h.1,nx+231,by omega,by omega,rfl,aAe _ _ _,λi hi=>by rw[aAc _ _ _ _ (by omega),aAc _ _ _ _ (by omega)],by omega⟩
   | true =>
     by_cases hs0:sec=[]
     .simp only[push_cast,seval,-Nat.reducePow,he,hs0,not_true,if_false];refine⟨by omega,by omega,λi h1 h2 _ _ _=>?_,?_⟩
      .rw[aAc _ _ _ _ (by omega),aAc _ _ _ _ (by omega)]
      .rw[aAc _ _ _ _ (by omega),aAc _ _ _ _ (by omega)]
     .simp only[push_cast,seval,-Nat.reducePow,he,hs0];exact⟨nx+231,by omega,by omega,rfl,aAe _ _ _,λi hi=>by rw[aAc _ _ _ _ (by omega),aAc _ _ _ _ (by omega)],by omega⟩
  .have he':¬((tt.1:Nat):Int)=0:=by omega
   simp only[push_cast,seval,-Nat.reducePow,he',he,false_and,if_false];refine⟨by omega,by omega,λi h1 h2 _ _ _=>?_,?_⟩
   .rw[aAc _ _ _ _ (by omega),aAc _ _ _ _ (by omega)]
   .rw[aAc _ _ _ _ (by omega),aAc _ _ _ _ (by omega)]
 .rintro s2 ⟨hcd,k,k1,k2,j0,j2,j7,j9,j11,ek,fr,jn⟩;rw[if_pos hcd];have hat:=hp.at_;have ebb:s2.L b=L b:=fr b hb;rw[<-ebb]at hat;have nb2:∀n,¬b=s2.nx+n:=λn=>by omega
  cases od with
  | none =>
    simp only[svO]at hat;simp only[push_cast,seval,-Nat.reducePow,j0,j2,j7,j9,j11,ek,hat];refine aEm ?_;simp only[push_cast,seval,-Nat.reducePow,j0,j2,j7,j9,j11,ek,hat,nb2];refine⟨by omega,by omega,s2.nx+52,by omega,by omega,?_,?_⟩
    .refine hp.mkD hb (by omega) hg hr ⟨st,(aAr s).1,tt.2.1,tt.2.2,sec⟩ ?_ ?_ λi h1 h2 _=>?_
     .rw[aAe,hp.d0 rfl];rfl
     .rw[aAc _ _ _ _ (by omega),aAe,hp.d0 rfl];rfl
     .rw[aAc _ _ _ _ h2,aAc _ _ _ _ (by omega)];exact fr i h1
    .intro i h1 h2 _ _ _;rw[aAc _ _ _ _ h2,aAc _ _ _ _ (by omega)];exact fr i h1
  | some j =>
    simp only[svO]at hat;obtain⟨hj,hjb⟩:=hp.d j rfl;have hjl:=hd j rfl;rw[<-fr j hjl]at hj;have hbj:¬b=j:=λe=>hjb e.symm;have htk:(gdV p.d).take p.d.length=gdV p.d:=by rw[<-aG6 p.d,zu]
    simp only[push_cast,seval,-Nat.reducePow,j0,j2,j7,j9,j11,ek,hat,hj,nb2,hbj,htk];refine⟨by rw[aG6];exact Nat.le_refl _,by omega,by omega,s2.nx+52,by omega,by omega,?_,?_⟩
    .refine hp.mkD hb (by omega) hg hr ⟨st,(aAr s).1,tt.2.1,tt.2.2,sec⟩ ?_ ?_ λi h1 h2 h3=>?_
     .rw[aAe];rfl
     .rw[aAc _ _ _ _ (by omega),aAe];rfl
     .rw[aAc _ _ _ _ h2,aAc _ _ _ _ (by omega),aAc _ _ _ _ (λe=>h3 (by rw[e]))];exact fr i h1
    .intro i h1 h2 _ _ h3;rw[aAc _ _ _ _ h2,aAc _ _ _ _ (by omega),aAc _ _ _ _ (λe=>h3 (by rw[e]))];exact fr i h1
def newO(nx nx':Nat)(o o':Option Nat):Prop:=o'=o∨∃i,o'=some i∧nx<=i∧i<nx'
def ixC(P:Program)(F:Nat->Nat):Prop:=∀(l:List (List UInt8)) (x:List UInt8),l.length<=2^60->PTr P (F 222) [.lst 1 (l.map .str),.str x] (.int .i64 (ixS l x))
def StmR(T:Nat->Nat)(L:Heap)(nx b:Nat)(og or od:Option Nat)(r:Option Pol)(v:V)(L':Heap)(nx':Nat):Prop:=
 nx<=nx'∧PolK L L' nx b og or od∧match r with
  | none=>v=.bool false
  | some q=>v=.bool true∧∃og' or' od',PolM T L' b og' or' od' q∧newO nx nx' og og'∧newO nx nx' or or'∧newO nx nx' od od'
structure StmF(P:Program)(F T:Nat->Nat):Prop where
 f390:bL6 P F T
 f396:aQ6 P F T
 f397:bDp P F T
 f398:bDt P F T
 f399:bCy P F T
 f413:aX0 P F T
 f414:aXm P F T
 lib:PolL P F
 tit:TitP P F
 ix:ixC P F
theorem t390(C:StmF P F T){L:Heap}{nx b:Nat}{og or od:Option Nat}{p:Pol}(hp:PolM T L b og or od p)(hb:b<nx)(hg:lowO nx og)(hr:lowO nx or)(hd:lowO nx od)(h1:p.g.length<=2^30)(h2:p.r.length<=2^30)(h3:p.d.length<=2^30)(s:List UInt8)(hs:s.length<=8192):
 ECall P (F 390) [.ptr b 0,.str s] L nx (StmR T L nx b og or od (aLk p s)):=by
 have hn:=aCs s;refine aB0 [] C.f390 (by simp) ?_;simp only[c390,push_cast,seval,-Nat.reducePow];refine aAa (t396 C.f396 C.lib s hs) (by simp only[push_cast,seval,-Nat.reducePow]) (by simp only[push_cast,seval,-Nat.reducePow]) ?_;unfold aLk;obtain⟨w,hw⟩:∃w,w=(aAr s).1:=⟨_,rfl⟩;obtain⟨r,hrr⟩:∃r,r=(aAr s).2:=⟨_,rfl⟩;rw[<-hw,<-hrr]at hn ⊢;have skip:∀(L':Heap) (nx':Nat),L'=L->nx<=nx'->StmR T L nx b og or od (some p) (.bool true) L' nx':=λL' nx' e hx=>by subst e;exact⟨hx,λ_ _ _ _ _ _=>rfl,rfl,og,or,od,hp,.inl rfl,.inl rfl,.inl rfl⟩
 have hrule:∀(al:Bool) (n2:Nat),nx<=n2->ECall P (F 398) [.ptr b 0,.str r,.bool al] L n2 λv L' nx'=>nx<=nx'+50∧StmR T L nx b og or od (rulS p r al) v L' (nx'+50):=λal n2 hn2 =>
  ECall.mono (t398 C.f398 C.f396 C.f413 C.f414 C.ix C.lib C.tit hp (by omega) (λi h=>by have:=hg i h;omega) (λi h=>by have:=hr i h;omega) (λi h=>by have:=hd i h;omega) h2 r (by omega) al) λv L' nx' h=>by
   cases hq:rulS p r al with
   | none=>rw[hq]at h;obtain⟨e,a,k,_⟩:=h;exact⟨by omega,by omega,λi a1 a2 _ _ _=>k i (by omega) a2 (λh=>nomatch h) (λh=>nomatch h) (λh=>nomatch h),e⟩
   | some q=>rw[hq]at h;obtain⟨e,i,i1,i2,m,k⟩:=h;exact⟨by omega,by omega,λi a1 a2 a3 a4 a5=>k i (by omega) a2 a3 a4 a5,e,og,some i,od,m,.inl rfl,.inr ⟨i,rfl,by omega,by omega⟩,.inl rfl⟩
 have hguard:∀(st:Bool) (n2:Nat),nx<=n2->ECall P (F 399) [.ptr b 0,.str r,.bool st] L n2 λv L' nx'=>nx<=nx'+50∧StmR T L nx b og or od (grdS p r st) v L' (nx'+50):=λst n2 hn2 =>
  ECall.mono (t399 C.f399 C.f396 C.lib C.tit hp (by omega) (λi h=>by have:=hg i h;omega) (λi h=>by have:=hr i h;omega) (λi h=>by have:=hd i h;omega) h3 r (by omega) st) λv L' nx' h=>by
   cases hq:grdS p r st with
   | none=>rw[hq]at h;obtain⟨e,a,k,_⟩:=h;exact⟨by omega,by omega,λi a1 a2 _ _ _=>k i (by omega) a2 (λh=>nomatch h) (λh=>nomatch h) (λh=>nomatch h),e⟩
   | some q=>rw[hq]at h;obtain⟨e,i,i1,i2,m,k⟩:=h;exact⟨by omega,by omega,λi a1 a2 a3 a4 a5=>k i (by omega) a2 a3 a4 a5,e,og,or,some i,m,.inl rfl,.inl rfl,.inr ⟨i,rfl,by omega,by omega⟩⟩
 by_cases c0:w=[]
 .rw[if_pos (.inl c0)];simp only[push_cast,seval,-Nat.reducePow,c0];exact⟨by omega,skip _ _ rfl (by omega)⟩
 have hw0:0<w.length:=List.length_pos_iff.2 c0;by_cases c35:w.head?=some 35
 .rw[if_pos (.inr c35)];have hg0:w.getD 0 0=35:=by cases w with|nil=>cases c35|cons x t=>simpa using c35
  simp only[push_cast,seval,-Nat.reducePow,c0,hg0,hw0];exact⟨by omega,skip _ _ rfl (by omega)⟩
 have hg0:¬((w.getD 0 0).toNat:Int)=35:=by
  cases w with
  | nil=>exact absurd rfl c0
  | cons x t=>intro e;apply c35;simp only[List.getD_cons_zero]at e;have:x=35:=UInt8.toNat_inj.1 (by simp only[UInt8.toNat_ofNat];omega);simp[this]
 rw[if_neg (λh=>h.elim c0 c35)];by_cases cg:w=aPd
 .rw[if_pos cg];have cg':(w=[103,114,111,117,112])=True:=eq_true cg;simp only[push_cast,seval,-Nat.reducePow,c0,hg0,hw0,cg'];refine aAg (t397 C.f397 C.f396 C.lib hp (by omega) (λi h=>by have:=hg i h;omega) (λi h=>by have:=hr i h;omega) (λi h=>by have:=hd i h;omega) h1 r (by omega)) ?_;rintro v L' nx' ⟨rfl,i,i1,i2,hm,hk⟩;have hk2:PolK L L' nx b og or od:=λj a1 a2 a3 a4 a5=>hk j (by omega) a2 a3 a4 a5;unfold grpS;by_cases hz:(aAr r).1=[]
  .rw[if_pos hz];exact⟨by omega,by omega,hk2,by simp[hz]⟩
  .rw[if_neg hz];exact⟨by omega,by omega,hk2,by simp[hz],some i,or,od,hm,.inr ⟨i,rfl,by omega,by omega⟩,.inl rfl,.inl rfl⟩
 rw[if_neg cg];have cg':¬w=[103,114,111,117,112]:=cg;by_cases ca:w=aGm
 .rw[if_pos (.inl ca)];have ca':(w=[97,108,108,111,119])=True:=eq_true ca;simp only[push_cast,seval,-Nat.reducePow,c0,hg0,hw0,cg',ca'];rw[show decide (w=aGm)=true from decide_eq_true ca];refine aAg (hrule true _ (by omega)) ?_;rintro v L' nx' h;exact h
 have ca':¬w=[97,108,108,111,119]:=ca;by_cases cd:w=aV0
 .rw[if_pos (.inr cd)];have cd':(w=[100,101,110,121])=True:=eq_true cd;simp only[push_cast,seval,-Nat.reducePow,c0,hg0,hw0,cg',ca',cd'];rw[show decide (w=aGm)=false from decide_eq_false ca];refine aAg (hrule false _ (by omega)) ?_;rintro v L' nx' h;exact h
 rw[if_neg (λh=>h.elim ca cd)];have cd':¬w=[100,101,110,121]:=cd;by_cases cu:w=aLz
 .rw[if_pos (.inl cu)];have cu':(w=[103,117,97,114,100])=True:=eq_true cu;simp only[push_cast,seval,-Nat.reducePow,c0,hg0,hw0,cg',ca',cd',cu'];have e:decide (w=aEj)=decide (w=[115,116,114,105,99,116]):=rfl;rw[e];refine aAg (hguard _ _ (by omega)) ?_;rintro v L' nx' h;exact h
 have cu':¬w=[103,117,97,114,100]:=cu;by_cases cs:w=aEj
 .rw[if_pos (.inr cs)];have cs':(w=[115,116,114,105,99,116])=True:=eq_true cs;simp only[push_cast,seval,-Nat.reducePow,c0,hg0,hw0,cg',ca',cd',cu',cs'];rw[show decide (w=aEj)=true from decide_eq_true cs];refine aAg (hguard true _ (by omega)) ?_;rintro v L' nx' h;exact h
 rw[if_neg (λh=>h.elim cu cs)];have cs':¬w=[115,116,114,105,99,116]:=cs;simp only[push_cast,seval,-Nat.reducePow,c0,hg0,hw0,cg',ca',cd',cu',cs'];exact⟨by omega,by omega,λ_ _ _ _ _ _=>rfl,rfl⟩
end Go.Ab
namespace Go.Ab
open Go.Lib
structure PolT(k:Nat)(p:Pol):Prop where
 g:∀x,x∈p.g->x.n.length<=8192∧(∀m,m∈x.m->m.length<=8192)∧x.m.length<=8193
 r:∀x,x∈p.r->x.sc.n.length<=8192
 d:∀x,x∈p.d->x.n.length<=8192∧x.sec.length<=8192
 gl:p.g.length<=k
 rl:p.r.length<=k
 dl:p.d.length<=k
theorem PolT.b{k:Nat}{p:Pol}(h:PolT k p)(hk:k<=2^30):PolB p:=
 ⟨λx hx=>⟨(h.g x hx).1,(h.g x hx).2.1,by have:=(h.g x hx).2.2;omega⟩,h.r,h.d,by have:=h.gl;omega,by have:=h.rl;omega,by have:=h.dl;omega⟩
theorem PolT.up{k l:Nat}{p:Pol}(h:PolT k p)(hk:k<=l):PolT l p:=⟨h.g,h.r,h.d,by have:=h.gl;omega,by have:=h.rl;omega,by have:=h.dl;omega⟩
theorem aYx(s:List UInt8):(titF s).2.2.length<=100:=by
 unfold titF;simp only;split
 .simp
 .split
  .simp only;omega
  .simp
theorem aGa:∀(s w:List UInt8),(∀m,m∈aAn w s->m.length<=w.length+s.length)∧(aAn w s).length<=s.length+1
 | [],w=>by simp only[aAn];split<;>simp
 | c::r,w=>by
   rw[aAn];split
   .obtain⟨h1,h2⟩:=aGa r [];split
    .exact⟨λm hm=>by have:=h1 m hm;simp at this ⊢;omega,by simp;omega⟩
    .refine⟨λm hm=>?_,by simp;omega⟩;rcases zD.1 hm with rfl|hm
     .simp
     .have:=h1 m hm;simp at this ⊢;omega
   .obtain⟨h1,h2⟩:=aGa r (w++[c]);exact⟨λm hm=>by have:=h1 m hm;simp at this ⊢;omega,by simp;omega⟩
theorem bB5{k:Nat}{p q:Pol}{s:List UInt8}(h:PolT k p)(hs:s.length<=8192)(e:aLk p s=some q):PolT (k+1) q:=by
 have hn:=aCs s;have hu:=h.up (Nat.le_succ k);unfold aLk at e;split at e
 .cases e;exact hu
 .split at e
  .unfold grpS at e;split at e
   .cases e
   .cases e
    have h2:=aCs (aAr s).2;obtain⟨w1,w2⟩:=aGa (aAr (aAr s).2).2 [];refine⟨λx hx=>?_,hu.r,hu.d,by have:=h.gl;simp;omega,hu.rl,hu.dl⟩;rcases zP.1 hx with hx|hx
    .exact h.g x hx
    .rw[zp.1 hx];exact⟨by simp only;omega,λm hm=>by have:=w1 m hm;simp at this;omega,by simp only;omega⟩
  .split at e
   .unfold rulS at e;split at e
    .cases e
    .split at e
     .cases e
     .rename_i x hx;cases e
      refine⟨hu.g,λy hy=>?_,hu.d,hu.gl,by have:=h.rl;simp;omega,hu.dl⟩;rcases zP.1 hy with hy|hy
      .exact h.r y hy
      .rw[zp.1 hy];simp only;unfold aEs at hx;split at hx
       .cases hx;simp
       .split at hx
        .cases hx;simp
        .split at hx
         .obtain rfl:=zq hx;have:=aYx (aAr (aAr (aAr s).2).2).2;simp only;omega
         .cases hx
   .split at e
    .unfold grdS at e;rw[aJo]at e;split at e
     .cases e
     .rename_i x hx;obtain rfl:=zq e;have h2:=aCs (aAr s).2;refine⟨hu.g,hu.r,λy hy=>?_,hu.gl,hu.rl,by have:=h.dl;simp;omega⟩;rcases zP.1 hy with hy|hy
      .exact h.d y hy
      .rw[zp.1 hy];split at hx
       .obtain rfl:=zq hx;have t1:=aYx (trW (barT (aAr (aAr s).2).2));have t2:=aE1 (barS (aAr (aAr s).2).2);have t3:=aNb (aAr (aAr s).2).2;exact⟨by simp only;omega,by simp only;omega⟩
       .cases hx
    .cases e
variable {P:Program} {F T:Nat->Nat}
theorem aKt:∀(s:List UInt8),(∀l,l∈lnF s->l.length<=s.length)∧(lnF s).length<=s.length+1
 | []=>by simp[lnF]
 | x::r=>by
   obtain⟨h1,h2⟩:=aKt r;obtain⟨p,q,hq⟩:=aSw r;rw[lnF];split
   .refine⟨λl hl=>?_,by simp;omega⟩;rcases zD.1 hl with rfl|hl
    .simp
    .have:=h1 l hl;simp;omega
   .rw[hq]at h1 h2 ⊢;simp only[List.headD_cons,List.tail_cons]at *;refine⟨λl hl=>?_,by simp at h2 ⊢;omega⟩;rcases zD.1 hl with rfl|hl
    .have:=h1 p (by simp);simp;omega
    .have:=h1 l (by simp[hl]);simp;omega
def SplP(P:Program)(F:Nat->Nat)(ty:Nat):Prop:=∀(s:List UInt8) (L:Heap) (nx:Nat),s.length<=8192->ECall P (F 171) [.str s,.str [10]] L nx λr L' nx'=>r=.own nx 1 0 (lnF s).length∧L'=upd L nx (some (.vec ty 1 ((lnF s).map .str)))∧nx'=nx+1
theorem aJn{L:Heap}{o:Option Nat}{ty z n k:Nat}{es:List V}(h:∀i,o=some i->L i=some (.vec ty z es))(h0:o=none->es=[])(hn:∀i,o=some i->es≠[])(hi:V.imms es=true)(hl:n=es.length):view L (k+1) (svO z n o)=ln z es:=by
 subst hl;cases o with
 | none=>rw[h0 rfl];exact aAb _ _ rfl
 | some i =>
   rw[svO,aN4 (h i rfl) hi];have:=hn i rfl;cases es with
   | nil=>exact absurd rfl this
   | cons a r=>rfl
theorem PolM.view{L:Heap}{b:Nat}{og or od:Option Nat}{p:Pol}(h:PolM T L b og or od p)(k:Nat):view L (k+2) (.agg [svO 2 p.g.length og,svO 6 p.r.length or,svO 5 p.d.length od])=p.v:=by
 simp only[Go.Ab.view,zw];rw[aJn (λi hi=>(h.g i hi).1) (λe=>by rw[h.g0 e];rfl) (λi hi=>?_) (aA6 _) ((aCx _).symm),aJn (λi hi=>(h.r i hi).1) (λe=>by rw[h.r0 e];rfl) (λi hi=>?_) (aBv _) ((aE7 _).symm),aJn (λi hi=>(h.d i hi).1) (λe=>by rw[h.d0 e];rfl) (λi hi=>?_) (aBy _) ((aG6 _).symm)]
 .rfl
 .have:=h.dn i hi;simpa[gdV]using this
 .have:=h.rn i hi;simpa[ruV]using this
 .have:=h.gn i hi;simpa[grV]using this
theorem Pol.v_imm(p:Pol):p.v.imm=true:=by simp only[Pol.v,V.imm,V.imms,aCy,aA6,aBv,aBy,zn]
theorem Pol.v_w(p:Pol):V.le p.v p.w:=by
 unfold Pol.v Pol.w;rw[aMj,aBt,aBt,aBt,aC3];exact⟨bC1 (V.leL_refl _),bC1 (V.leL_refl _),bC1 (V.leL_refl _),trivial⟩
def hiO(k:Nat)(o:Option Nat):Prop:=∀i,o=some i->k<=i
theorem t361(hf:bJh P F T)(C:StmF P F T){ty:Nat}(hS:SplP P F ty)(h391:∀p,PolB p->PTr P (F 391) [p.w] (.int .i64 (valE p)))(s:List UInt8):PTr P (F 361) [.str s] (.tup [(polF s).1.v,.int .i64 (polF s).2.1,.int .i64 (polF s).2.2]):=by
 refine ptrC [] hf (by simp) (by simp only[V.imm,V.imms,Pol.v_imm,zn]) ?_;unfold polF;by_cases h0:8192<s.length
 .have h0':(8192:Int)<((s.length:Nat):Int):=by omega
  simp only[c361,push_cast,seval,-Nat.reducePow,h0,h0'];exact aAb 3 _ rfl
 have h0':¬(8192:Int)<((s.length:Nat):Int):=by omega
 obtain⟨l1,l2⟩:=aKt s;simp only[c361,push_cast,seval,-Nat.reducePow,h0,h0'];obtain⟨R,hR⟩:∃R,R=aEb (lnF s) 0 ⟨[],[],[]⟩:=⟨_,rfl⟩;rw[<-hR];have l3:((lnF s).map V.str).length=(lnF s).length:=List.length_map ..;refine aAx (λs1=>R.2=0∧PolT (lnF s).length R.1∧∃og or od,PolM T s1.L 75 og or od R.1∧lowO s1.nx og∧lowO s1.nx or∧lowO s1.nx od∧hiO 105 og∧hiO 105 or∧hiO 105 od∧105<=s1.nx∧s1.env 2=.ptr 2 0∧s1.env 5=.ptr 75 0∧s1.L 2=some (.box (T 16) [.nils,.nils,.nils])) ?_ ?_
 .simp only[push_cast,seval,-Nat.reducePow];refine aAg (hS s _ _ (by omega)) ?_;rintro r L' nx' ⟨rfl,rfl,rfl⟩;simp only[push_cast,seval,-Nat.reducePow];refine aAd (λm s1=>∃a q p og or od,lnF s=a++q∧m=q.length∧R=aEb q a.length p∧PolT a.length p∧PolM T s1.L 75 og or od p∧lowO s1.nx og∧lowO s1.nx or∧lowO s1.nx od∧hiO 141 og∧hiO 141 or∧hiO 141 od∧141<=s1.nx∧s1.env 2=.ptr 2 0∧s1.env 5=.ptr 75 0∧s1.L 2=some (.box (T 16) [.nils,.nils,.nils])∧s1.env 14=.own 140 1 0 (lnF s).length∧s1.env 15=.int .i64 (lnF s).length∧s1.env 16=.int .i64 a.length∧s1.L 140=some (.vec ty 1 ((lnF s).map .str))) (lnF s).length ?_ λm s1 hJ=>?_
  .simp only[push_cast,seval,-Nat.reducePow];refine⟨[],lnF s,⟨[],[],[]⟩,none,none,none,rfl,rfl,hR,⟨by simp,by simp,by simp,by simp,by simp,by simp⟩,⟨?_,(λ_ h=>nomatch h),(λ_ h=>nomatch h),(λ_ h=>nomatch h),λ_=>rfl,λ_=>rfl,λ_=>rfl,(λ_ h=>nomatch h),(λ_ h=>nomatch h),(λ_ h=>nomatch h),(λ_ h=>nomatch h),(λ_ h=>nomatch h)⟩,(λ_ h=>nomatch h),(λ_ h=>nomatch h),(λ_ h=>nomatch h),(λ_ h=>nomatch h),(λ_ h=>nomatch h),(λ_ h=>nomatch h),?_⟩
   .rw[aAc _ _ _ _ (by omega),aAe];rfl
   .rfl
  .obtain⟨a,q,p,og,or,od,hb,rfl,hr,hT,hM,lg,lr,ld,hg,hrr,hd,hn,j2,j5,e2,j14,j15,j16,e3⟩:=hJ;have hb2:(lnF s).length=a.length+q.length:=by rw[hb];simp
   cases q with
   | nil =>
     have h1:¬((a.length:Nat):Int)<(((lnF s).length:Nat):Int):=by simp at hb2;omega
     simp only[push_cast,seval,-Nat.reducePow,j2,j5,e2,j14,j15,j16,e3,h1];obtain rfl:a=lnF s:=by rw[hb,List.append_nil]
     rw[hr];exact⟨rfl,hT,og,or,od,hM,λi h=>by have:=lg i h;omega,λi h=>by have:=lr i h;omega,λi h=>by have:=ld i h;omega,λi h=>by have:=hg i h;omega,λi h=>by have:=hrr i h;omega,λi h=>by have:=hd i h;omega,by omega⟩
   | cons l q =>
     have h1:((a.length:Nat):Int)<(((lnF s).length:Nat):Int):=by simp at hb2;omega
     have hgl:((lnF s).map V.str).getD a.length .junk=.str l:=by rw[hb];simp[List.getD_eq_getElem?_getD]
     simp only[push_cast,seval,-Nat.reducePow,j2,j5,e2,j14,j15,j16,e3,h1,hgl,l3];have hll:=l1 l (by rw[hb];simp);have k1:=hT.gl;have k2:=hT.rl;have k3:=hT.dl;have hal:a.length<(lnF s).length:=by simp at hb2;omega
     refine⟨hal,hal,aAg (t390 C hM (by omega) (λi h=>by have:=lg i h;omega) (λi h=>by have:=lr i h;omega) (λi h=>by have:=ld i h;omega) (by omega) (by omega) (by omega) l (by omega)) ?_⟩;rintro v L' nx' ⟨n1,n2,n3⟩;have x2:L' 2=s1.L 2:=n2 2 (by omega) (by omega) (λh=>by have:=hg 2 h;omega) (λh=>by have:=hrr 2 h;omega) (λh=>by have:=hd 2 h;omega);have x3:L' 140=s1.L 140:=n2 140 (by omega) (by omega) (λh=>by have:=hg 140 h;omega) (λh=>by have:=hrr 140 h;omega) (λh=>by have:=hd 140 h;omega);rw[e2]at x2;rw[e3]at x3;rw[aEb]at hr;cases hq:aLk p l with
     | none=>rw[hq]at n3 hr;subst n3;simp only[push_cast,seval,-Nat.reducePow,j2,j5,j14,j15,j16,x2,x3];rw[hr];refine⟨⟨by omega,by omega⟩,?_⟩;rw[if_pos (by simp)];exact aAb 3 _ rfl
     | some p2 =>
       rw[hq]at n3 hr;obtain⟨rfl,og2,or2,od2,m2,w1,w2,w3⟩:=n3;simp only[push_cast,seval,-Nat.reducePow,j2,j5,j14,j15,j16,x2,x3];have hi2:∀o o':Option Nat,newO (s1.nx+105) nx' o o'->hiO 141 o->hiO 141 o':=λo o' h1 h2 i hi=>by
        rcases h1 with rfl|⟨j,rfl,j1,j2⟩
        .exact h2 i hi
        .cases hi;omega
       have lo2:∀o o':Option Nat,newO (s1.nx+105) nx' o o'->lowO s1.nx o->lowO (nx'+70) o':=λo o' h1 h2 i hi=>by
        rcases h1 with rfl|⟨j,rfl,j1,j2⟩
        .have:=h2 i hi;omega
        .cases hi;omega
       refine⟨⟨by omega,by omega⟩,q.length,by omega,a++[l],q,p2,og2,or2,od2,by rw[hb];simp,rfl,by rw[hr];simp,by simpa using bB5 hT (by omega) hq,m2,lo2 _ _ w1 lg,lo2 _ _ w2 lr,lo2 _ _ w3 ld,hi2 _ _ w1 hg,hi2 _ _ w2 hrr,hi2 _ _ w3 hd,by omega,by simp⟩
 .rintro s1 ⟨hz,hT,og,or,od,hM,lg,lr,ld,hg,hr,hd,hn,j2,j5,e2⟩;have hat:=hM.at_;simp only[push_cast,seval,-Nat.reducePow,j2,j5,e2,hat];rw[hM.view 1];have hT2:=hT.b (by omega);refine aZt (h391 _ hT2) (by rw[aBt,aC3];exact⟨R.1.v_w,trivial⟩) (by simp only[V.imms,Pol.v_imm,zn]) rfl ?_;by_cases c:valE R.1=0
  .simp only[push_cast,seval,-Nat.reducePow,j2,j5,e2,hat,c,hz];have hM2:PolM T (upd s1.L 2 (some (.box (T 16) [svO 2 R.1.g.length og,svO 6 R.1.r.length or,svO 5 R.1.d.length od]))) 75 og or od R.1:=by
    refine { hM with at_:=?_,g:=λi h=>?_,r:=λi h=>?_,d:=λi h=>?_ }
    .rw[aAc _ _ _ _ (by omega)];exact hM.at_
    .rw[aAc _ _ _ _ (λe=>by have:=hg i h;omega)];exact hM.g i h
    .rw[aAc _ _ _ _ (λe=>by have:=hr i h;omega)];exact hM.r i h
    .rw[aAc _ _ _ _ (λe=>by have:=hd i h;omega)];exact hM.d i h
   have o1:∀(z n:Nat) (o:Option Nat),(svO z n o).one=true:=λz n o=>by cases o<;>rfl
   refine⟨by simp[o1],?_⟩;have:=hM2.view 0;simp only[view,zw]at this ⊢;rw[this];simp
  .have c':¬((valE R.1:Nat):Int)=0:=by omega
   simp only[push_cast,seval,-Nat.reducePow,j2,j5,e2,hat,c,c',hz];exact aAb 3 _ rfl
end Go.Ab
