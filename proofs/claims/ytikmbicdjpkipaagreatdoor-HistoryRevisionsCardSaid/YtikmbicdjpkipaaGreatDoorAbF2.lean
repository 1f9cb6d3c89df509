import Derived.Test.YtikmbicdjpkipaaGreatDoorAbC4
import Derived.Sort.Walk0
import Derived.Test.YtikmbicdjpkipaaGreatDoorAbG13
import Derived.Test.YtikmbicdjpkipaaGreatDoorAbP1
import Derived.Test.YtikmbicdjpkipaaGreatDoorAbK1
import Derived.Test.YtikmbicdjpkipaaGreatDoorAbK4
import Derived.KernelRfl
import Derived.Test.YtikmbicdjpkipaaGreatDoorAbR2
open List renaming le_antisymm->wT,not_lt->wH,mem_cons->zD,length_cons->zg,mem_cons_of_mem->ya,mem_singleton->zp,all_eq_true->zx,getD->zI,cons_append->yg,length_map->zb,drop_eq_getElem_cons->zH,drop->yK,map_cons->zE,take->zA,take_of_length_le->zj,take_length->zu,drop_length->yx
open Bool renaming not_true->zN,not_false->zW,false_and->zi,true_and->zy,false_or->yw
set_option linter.unusedSimpArgs false
set_option linter.unusedVariables false
namespace Go.Ab
abbrev Tx:=List UInt8
def okC(c:UInt8):Bool:=(decide (97<=c.toNat)&&decide (c.toNat<=122))||(decide (48<=c.toNat)&&decide (c.toNat<=57))||decide (c.toNat=45)||decide (c.toNat=95)
def aCr(s:Tx):Bool:=decide (1<=s.length)&&decide (s.length<=30)&&decide (97<=(s.getD 0 0).toNat)&&decide ((s.getD 0 0).toNat<=122)&&s.all okC
def ltB(a b:Tx):Bool:=Op.bytesLess a b
theorem aGx{a b:Tx}:ltB a b=true↔a<b:=by unfold ltB;rw[Go.Proofs.bytesLess_eq];simp
theorem aIo(a:Tx):ltB a a=false:=by
 cases h:ltB a a with
 | false=>rfl
 | true=>exact absurd (aGx.1 h) (List.lt_irrefl a)
theorem aKr{a b c:Tx}(h:ltB a b=true)(k:ltB b c=true):ltB a c=true:=aGx.2 (List.lt_trans (aGx.1 h) (aGx.1 k))
theorem aR1{a b:Tx}(h:ltB a b=false)(k:a≠b):ltB b a=true:=by
 rw[aGx];have h':¬a<b:=λe=>by rw[aGx.2 e]at h;cases h
 rcases List.le_total b a with h1|h1
 .rcases Decidable.em (b<a)with h2|h2
  .exact h2
  .exact absurd (wT (wH.1 h2) (wH.1 h')) k
 .exact absurd (wT h1 (wH.1 h')) k
def putF(s:Tx):List Tx->List Tx
 | []=>[s]
 | x::r=>if ltB x s=true then x::putF s r else if x=s then x::r else s::x::r
theorem aGj(s y:Tx):∀l:List Tx,y∈putF s l↔y=s∨y∈l
 | []=>by simp[putF]
 | x::r=>by
   unfold putF;split
   .simp only[zD,aGj s y r];constructor
    .rintro(h|h|h)
     .exact .inr (.inl h)
     .exact .inl h
     .exact .inr (.inr h)
    .rintro(h|h|h)
     .exact .inr (.inl h)
     .exact .inl h
     .exact .inr (.inr h)
   .split
    .rename_i e;subst e;simp
    .simp
def srt:List Tx->Prop
 | []=>True
 | x::r=>(∀y,y∈r->ltB x y=true)∧srt r
theorem aNl(s:Tx):∀l:List Tx,srt l->srt (putF s l)
 | [],_=>by simp[putF,srt]
 | x::r,h=>by
   obtain⟨h1,h2⟩:=h;unfold putF;split
   .rename_i e;refine⟨λy hy=>?_,aNl s r h2⟩;rcases(aGj s y r).1 hy with rfl|hy
    .exact e
    .exact h1 y hy
   .rename_i e;split
    .exact⟨h1,h2⟩
    .rename_i e2;have hs:ltB s x=true:=aR1 (by simpa using e) e2;exact⟨λy hy=>by
      rcases zD.1 hy with rfl|hy
      .exact hs
      .exact aKr hs (h1 y hy),h1,h2⟩
theorem aTy(s:Tx):∀l:List Tx,srt l->(putF s l).length=if s∈l then l.length else l.length+1
 | [],_=>by simp[putF]
 | x::r,h=>by
   obtain⟨h1,h2⟩:=h;unfold putF;split
   .rename_i e;have hne:s≠x:=λq=>by rw[q,aIo]at e;cases e
    rw[zg,aTy s r h2];by_cases hm:s∈r<;>simp[hm,hne]
   .rename_i e;split
    .rename_i e2;subst e2;simp
    .rename_i e2;have hs:ltB s x=true:=aR1 (by simpa using e) e2;have hn:s∉x::r:=λq=>by
      rcases zD.1 q with q|q
      .exact e2 q.symm
      .have:=aKr hs (h1 s q);rw[aIo]at this;cases this
     simp[hn]
theorem aY1:∀(a b:List Tx),srt a->srt b->(∀x,x∈a↔x∈b)->a=b
 | [],[],_,_,_=>rfl
 | [],y::q,_,_,h=>by have:=(h y).2 (by simp);simp at this
 | x::r,[],_,_,h=>by have:=(h x).1 (by simp);simp at this
 | x::r,y::q,h1,h2,h=>by
   have e:x=y:=by
    by_cases hxy:x=y
    .exact hxy
    .have a:y∈r:=by
      rcases zD.1 ((h y).2 (by simp))with e|e
      .exact absurd e.symm hxy
      .exact e
     have b:x∈q:=by
      rcases zD.1 ((h x).1 (by simp))with e|e
      .exact absurd e hxy
      .exact e
     have:=aKr (h1.1 y a) (h2.1 x b);rw[aIo]at this;cases this
   subst e;congr 1;refine aY1 r q h1.2 h2.2 λz=>?_;have n1:x∉r:=λq=>by have:=h1.1 x q;rw[aIo]at this;cases this
   have n2:x∉q:=λq=>by have:=h2.1 x q;rw[aIo]at this;cases this
   constructor
   .intro hz;rcases zD.1 ((h z).1 (ya _ hz))with e|e
    .exact absurd (e▸hz) n1
    .exact e
   .intro hz;rcases zD.1 ((h z).2 (ya _ hz))with e|e
    .exact absurd (e▸hz) n2
    .exact e
theorem aHf:∀l:List Tx,srt l->l.Nodup
 | [],_=>List.nodup_nil
 | x::r,h=>List.nodup_cons.2 ⟨λq=>(by have:=h.1 x q;rw[aIo]at this;cases this),aHf r h.2⟩
def belM(u:Tx)(l:List Tx)(m:Tx):Bool:=(aCr u&&decide (m=u))||(decide (0<m.length)&&decide ((m.getD 0 0).toNat=64)&&l.contains (m.drop 1))
def belG(u:Tx)(l:List Tx)(g:Gro):Bool:=g.m.any (belM u l)
def rndG(u:Tx):List Gro->List Tx->List Tx
 | [],l=>l
 | g::r,l=>rndG u r (if belG u l g then putF g.n l else l)
def aT:Tx:=[97,108,108]
def uT:Tx:=[117,115,101,114,115]
def grp0(u:Tx):List Tx:=if aCr u then[aT,uT]else[aT]
def itF(u:Tx)(gs:List Gro):Nat->List Tx->List Tx
 | 0,l=>l
 | k+1,l=>if l.length<(rndG u gs l).length then itF u gs k (rndG u gs l)else rndG u gs l
def grpF(u:Tx)(gs:List Gro):List Tx:=itF u gs (gs.length+4) (grp0 u)
def isG(gs:List Gro)(x:Tx):Prop:=x=aT∨x=uT∨∃g,g∈gs∧g.n=x
theorem aHx(u:Tx)(gs:List Gro):∀(r:List Gro) (l:List Tx),(∀g,g∈r->g∈gs)->srt l->(∀x,x∈l->isG gs x) ->
 srt (rndG u r l)∧(∀x,x∈rndG u r l->isG gs x)∧(∀x,x∈l->x∈rndG u r l)∧l.length<=(rndG u r l).length∧((rndG u r l).length=l.length->∀g,g∈r->belG u l g=true->g.n∈l)∧((rndG u r l).length=l.length->rndG u r l=l)
 | [],l,hr,hs,hg=>⟨hs,hg,λx h=>h,Nat.le_refl _,λ_ g hg=>by simp at hg,λ_=>rfl⟩
 | g::r,l,hr,hs,hg=>by
   unfold rndG;by_cases hb:belG u l g=true
   .rw[if_pos hb];have hlen:=aTy g.n l hs;obtain⟨a1,a2,a3,a4,a5,a6⟩:=aHx u gs r (putF g.n l) (λq hq=>hr q (ya _ hq)) (aNl _ _ hs) λx hx=>by
     rcases(aGj _ _ _).1 hx with rfl|hx
     .exact .inr (.inr ⟨g,hr g (by simp),rfl⟩)
     .exact hg x hx
    by_cases hm:g.n∈l
    .rw[if_pos hm]at hlen;have he:putF g.n l=l:=aY1 _ _ (aNl _ _ hs) hs λx=>by rw[aGj];exact⟨λh=>h.elim (λe=>e▸hm) id,.inr⟩
     rw[he]at a1 a2 a3 a4 a5 a6 ⊢;refine⟨a1,a2,a3,a4,λhl q hq hqb=>?_,a6⟩;rcases zD.1 hq with rfl|hq
     .exact hm
     .exact a5 hl q hq hqb
    .rw[if_neg hm]at hlen;exact⟨a1,a2,λx hx=>a3 x ((aGj _ _ _).2 (.inr hx)),by omega,λhl=>by omega,λhl=>by omega⟩
   .rw[if_neg hb];obtain⟨a1,a2,a3,a4,a5,a6⟩:=aHx u gs r l (λq hq=>hr q (ya _ hq)) hs hg;refine⟨a1,a2,a3,a4,λhl q hq hqb=>?_,a6⟩;rcases zD.1 hq with rfl|hq
    .exact absurd hqb hb
    .exact a5 hl q hq hqb
theorem aNn{gs:List Gro}{l:List Tx}(hs:srt l)(hg:∀x,x∈l->isG gs x):l.length<=gs.length+2:=by
 have:l.length<=(aT::uT::gs.map Gro.n).length:=List.Nodup.length_le_of_subset (aHf l hs) λx hx=>by
  rcases hg x hx with rfl|rfl|⟨g,hgm,rfl⟩
  .simp
  .simp
  .simp only[zD,List.mem_map];exact .inr (.inr ⟨g,hgm,rfl⟩)
 simpa using this
theorem aH3(u:Tx):srt (grp0 u):=by
 unfold grp0;split
 .refine⟨λy hy=>?_,by simp[srt]⟩;rw[zp.1 hy];rfl
 .simp[srt]
theorem aHp(u:Tx)(gs:List Gro):∀x,x∈grp0 u->isG gs x:=by
 intro x hx;unfold grp0 at hx;split at hx
 .rcases zD.1 hx with h|h
  .exact .inl h
  .exact .inr (.inl (zp.1 h))
 .exact .inl (zp.1 hx)
theorem aT7(u:Tx)(gs:List Gro):∀(k:Nat) (l:List Tx),srt l->(∀x,x∈l->isG gs x)->srt (itF u gs k l)∧(∀x,x∈itF u gs k l->isG gs x)∧(∀x,x∈l->x∈itF u gs k l)
 | 0,l,hs,hg=>⟨hs,hg,λx h=>h⟩
 | k+1,l,hs,hg=>by
   obtain⟨a1,a2,a3,a4,a5,a6⟩:=aHx u gs gs l (λg h=>h) hs hg;unfold itF;split
   .obtain⟨b1,b2,b3⟩:=aT7 u gs k _ a1 a2;exact⟨b1,b2,λx hx=>b3 x (a3 x hx)⟩
   .exact⟨a1,a2,a3⟩
theorem aLb(u:Tx)(gs:List Gro):srt (grpF u gs)∧(∀x,x∈grpF u gs->isG gs x)∧(∀x,x∈grp0 u->x∈grpF u gs):=aT7 u gs _ _ (aH3 u) (aHp u gs)
theorem bCp(u:Tx)(gs:List Gro):(grpF u gs).length<=gs.length+2:=aNn (aLb u gs).1 (aLb u gs).2.1
variable {P:Program} {F T:Nat->Nat}
open Go.Lib
theorem aPr(c:UInt8):okC c=true↔(¬c.toNat<97∧¬122<c.toNat)∨(¬c.toNat<48∧¬57<c.toNat)∨c.toNat=45∨c.toNat=95:=by
 unfold okC;simp only[Bool.or_eq_true,Bool.and_eq_true,decide_eq_true_eq];omega
theorem aKh(s:Tx):aCr s=(!decide (s.length<1)&&!decide (30<s.length)&&!decide ((s.getD 0 0).toNat<97)&&!decide (122<(s.getD 0 0).toNat)&&s.all okC):=by
 have e1:decide (1<=s.length)=!decide (s.length<1):=by by_cases h:s.length<1<;>simp[h]<;>omega
 have e2:decide (s.length<=30)=!decide (30<s.length):=by by_cases h:30<s.length<;>simp[h]<;>omega
 have e3:decide (97<=(s.getD 0 0).toNat)=!decide ((s.getD 0 0).toNat<97):=by by_cases h:(s.getD 0 0).toNat<97<;>simp only[h,decide_true,decide_false,zN,zW,decide_eq_true_eq,decide_eq_false_iff_not]<;>omega
 have e4:decide ((s.getD 0 0).toNat<=122)=!decide (122<(s.getD 0 0).toNat):=by by_cases h:122<(s.getD 0 0).toNat<;>simp only[h,decide_true,decide_false,zN,zW,decide_eq_true_eq,decide_eq_false_iff_not]<;>omega
 unfold aCr;rw[e1,e2,e3,e4]
theorem t217(hf:aSe P F T)(s:Tx):PTr P (F 217) [.str s] (.bool (aCr s)):=by
 refine ptrC [] hf (by simp) rfl ?_;rw[aKh];by_cases a1:s.length<1
 .have a1':((s.length:Nat):Int)<1:=by omega
  simp only[c217,push_cast,seval,-Nat.reducePow,a1,a1',view,zi]
 have a1':¬((s.length:Nat):Int)<1:=by omega
 by_cases a2:30<s.length
 .have a2':(30:Int)<((s.length:Nat):Int):=by omega
  simp only[c217,push_cast,seval,-Nat.reducePow,a1,a1',a2,a2',view,zi]
 have a2':¬(30:Int)<((s.length:Nat):Int):=by omega
 have a0:0<s.length:=by omega
 have hall:∀(i:Nat),i<s.length->okC (s.getD i 0)=false->s.all okC=false:=λi hi h=>by
  cases e:s.all okC with
  | false=>rfl
  | true=>have:=zx.1 e (s.getD i 0) (by simp[zI,hi]);rw[h]at this;cases this
 have hall2:(∀(i:Nat),i<s.length->okC (s.getD i 0)=true)->s.all okC=true:=λh=>zx.2 λx hx=>by obtain⟨i,hi,rfl⟩:=List.mem_iff_getElem.1 hx;have:=h i hi;simpa[zI,hi]using this
 obtain⟨c0,hc0⟩:∃c,s.getD 0 0=c:=⟨_,rfl⟩;rw[hc0];by_cases a3:c0.toNat<97
 .have a3':((c0.toNat:Nat):Int)<97:=by omega
  simp only[c217,push_cast,seval,-Nat.reducePow,a1,a1',a2,a2',a0,hc0,a3,a3',view,zi]
 have a3':¬((c0.toNat:Nat):Int)<97:=by omega
 by_cases a4:122<c0.toNat
 .have a4':(122:Int)<((c0.toNat:Nat):Int):=by omega
  simp only[c217,push_cast,seval,-Nat.reducePow,a1,a1',a2,a2',a0,hc0,a3,a3',a4,a4',view,zi]
 have a4':¬(122:Int)<((c0.toNat:Nat):Int):=by omega
 simp only[c217,push_cast,seval,-Nat.reducePow,a1,a1',a2,a2',a0,hc0,a3,a3',a4,a4'];refine aAd (λm s1=>∃i,i<=s.length∧m=s.length-i∧(∀k,k<i->okC (s.getD k 0)=true)∧s1.env 0=.str s∧s1.env 3=.int .i64 i) s.length ⟨0,?_⟩ λm s1 hJ=>?_
 .simp only[push_cast,seval,-Nat.reducePow];exact⟨rfl,λk hk=>absurd hk (Nat.not_lt_zero _)⟩
 .obtain⟨i,hi,rfl,hn,j0,j3⟩:=hJ;by_cases h:i<s.length
  .have h':((i:Nat):Int)<((s.length:Nat):Int):=by omega
   obtain⟨c,hc⟩:∃c,s.getD i 0=c:=⟨_,rfl⟩;have hok:=aPr c;have hbad:okC c=false->s.all okC=false:=λe=>hall i h (by rw[hc];exact e);have hgo:okC c=true->∀k,k<i+1->okC (s.getD k 0)=true:=λe k hk=>by
    by_cases hki:k=i
    .rw[hki,hc];exact e
    .exact hn k (by omega)
   have step:okC c=true->(True∧∃m',m'<s.length-i∧∃i_1,i_1<=s.length∧m'=s.length-i_1∧(∀k,k<i_1->okC (s.getD k 0)=true)∧((i:Int)+1)=i_1):=λe=>⟨trivial,s.length-(i+1),by omega,i+1,by omega,rfl,hgo e,by simp⟩;by_cases b1:c.toNat<97
   .have b1':((c.toNat:Nat):Int)<97:=by omega
    by_cases b3:c.toNat<48
    .have b3':((c.toNat:Nat):Int)<48:=by omega
     by_cases b5:c.toNat=45
     .have b5':((c.toNat:Nat):Int)=45:=by omega
      have e:okC c=true:=hok.2 (by omega);simp only[push_cast,seval,-Nat.reducePow,j0,j3,h',hc,b1',b3',b5'];exact⟨h,⟨by omega,by omega⟩,s.length-(i+1),by omega,i+1,by omega,rfl,hgo e,by simp⟩
     .have b5':¬((c.toNat:Nat):Int)=45:=by omega
      have b6':¬((c.toNat:Nat):Int)=95:=by omega
      have e:okC c=false:=by cases q:okC c with|false=>rfl|true=>exact absurd (hok.1 q) (by omega)
      simp only[push_cast,seval,-Nat.reducePow,j0,j3,h',hc,b1',b3',b5',b6',view,hbad e];exact h
    .have b3':¬((c.toNat:Nat):Int)<48:=by omega
     by_cases b4:57<c.toNat
     .have b4':(57:Int)<((c.toNat:Nat):Int):=by omega
      have b5':¬((c.toNat:Nat):Int)=45:=by omega
      by_cases b6:c.toNat=95
      .have b6':((c.toNat:Nat):Int)=95:=by omega
       have e:okC c=true:=hok.2 (by omega);simp only[push_cast,seval,-Nat.reducePow,j0,j3,h',hc,b1',b3',b4',b5',b6'];exact⟨h,⟨by omega,by omega⟩,s.length-(i+1),by omega,i+1,by omega,rfl,hgo e,by simp⟩
      .have b6':¬((c.toNat:Nat):Int)=95:=by omega
       have e:okC c=false:=by cases q:okC c with|false=>rfl|true=>exact absurd (hok.1 q) (by omega)
       simp only[push_cast,seval,-Nat.reducePow,j0,j3,h',hc,b1',b3',b4',b5',b6',view,hbad e];exact h
     .have b4':¬(57:Int)<((c.toNat:Nat):Int):=by omega
      have e:okC c=true:=hok.2 (by omega);simp only[push_cast,seval,-Nat.reducePow,j0,j3,h',hc,b1',b3',b4'];exact⟨h,⟨by omega,by omega⟩,s.length-(i+1),by omega,i+1,by omega,rfl,hgo e,by simp⟩
   .have b1':¬((c.toNat:Nat):Int)<97:=by omega
    by_cases b2:122<c.toNat
    .have b2':(122:Int)<((c.toNat:Nat):Int):=by omega
     have b3':¬((c.toNat:Nat):Int)<48:=by omega
     have b4':(57:Int)<((c.toNat:Nat):Int):=by omega
     have b5':¬((c.toNat:Nat):Int)=45:=by omega
     have b6':¬((c.toNat:Nat):Int)=95:=by omega
     have e:okC c=false:=by cases q:okC c with|false=>rfl|true=>exact absurd (hok.1 q) (by omega)
     simp only[push_cast,seval,-Nat.reducePow,j0,j3,h',hc,b1',b2',b3',b4',b5',b6',view,hbad e];exact h
    .have b2':¬(122:Int)<((c.toNat:Nat):Int):=by omega
     have e:okC c=true:=hok.2 (by omega);simp only[push_cast,seval,-Nat.reducePow,j0,j3,h',hc,b1',b2'];exact⟨h,⟨by omega,by omega⟩,s.length-(i+1),by omega,i+1,by omega,rfl,hgo e,by simp⟩
  .have h':¬((i:Nat):Int)<((s.length:Nat):Int):=by omega
   have e:=hall2 λk hk=>hn k (by omega);simp only[push_cast,seval,-Nat.reducePow,j0,j3,h',e,view]
theorem aPc(s:Tx):∀(l:List Tx) (k:Nat),k<=l.length->(∀j,j<k->ltB (l.getD j []) s=true)->putF s l=l.take k++putF s (l.drop k)
 | l,0,_,_=>by simp
 | [],k+1,h,_=>by simp at h
 | x::r,k+1,h,hj=>by have h0:ltB x s=true:=hj 0 (by omega);rw[putF,if_pos h0,List.take_succ_cons,List.drop_succ_cons,yg,aPc s r k (by simpa using h) λj hk=>hj (j+1) (by omega)]
theorem t218(hf:bCg P F T)(l:List Tx)(s:Tx)(hl:l.length<=1000):PTr P (F 218) [.lst 1 (l.map .str),.str s] (.lst 1 ((putF s l).map .str)):=by
 refine ptrC [] hf (by simp) (by simp[V.imm,aAp]) ?_;have hln:(l.map V.str).length=l.length:=zb ..;have hli:=aAp l;simp only[c218,push_cast,seval,-Nat.reducePow,hln];refine aAd (λm s1=>∃k,k<=l.length∧m=l.length-k∧(∀j,j<k->ltB (l.getD j []) s=true)∧s1.env 0=.lst 1 (l.map .str)∧s1.env 1=.str s∧s1.env 5=.int .i64 k) l.length ⟨0,?_⟩ λm s1 hJ=>?_
 .simp only[push_cast,seval,-Nat.reducePow];exact⟨rfl,λk hk=>absurd hk (Nat.not_lt_zero _)⟩
 .obtain⟨k,hk,rfl,hn,j0,j1,j5⟩:=hJ;have hput:=aPc s l k hk hn;by_cases h:k<l.length
  .have h':((k:Nat):Int)<((l.length:Nat):Int):=by omega
   have hg:=aEe h;have hd:l.drop k=l.getD k []::l.drop (k+1):=by rw[zH h];simp[zI,h]
   cases hb:Op.bytesLess (l.getD k []) s with
   | true =>
     simp only[push_cast,seval,-Nat.reducePow,j0,j1,j5,h',hln,hg,hb];refine⟨h,⟨by omega,by omega⟩,l.length-(k+1),by omega,k+1,by omega,rfl,λj hj=>?_,by simp⟩;by_cases hjk:j=k
     .rw[hjk];exact hb
     .exact hn j (by omega)
   | false =>
     have hb':¬ltB (l.getD k []) s=true:=by show¬Op.bytesLess (l.getD k []) s=true;rw[hb];simp
     rw[hd,putF,if_neg hb']at hput;by_cases e:l.getD k []=s
     .rw[if_pos e,<-hd,List.take_append_drop]at hput;rw[e]at hb;simp only[push_cast,seval,-Nat.reducePow,j0,j1,j5,h',hln,hg,hb,e,hput];exact⟨h,h,by simp only[view]⟩
     .rw[if_neg e]at hput;have hdm:(l.drop k).map V.str=(l.map V.str).drop k:=List.map_drop;have htm:(l.take k).map V.str=(l.map V.str).take k:=List.map_take;have hdl:(yK k (l.map V.str)).length=l.length-k:=by rw[List.length_drop,hln]
      have hres:(putF s l).map V.str=(l.map V.str).take k++(V.str s::(l.map V.str).drop k):=by rw[hput,<-hd,List.map_append,zE,hdm,htm]
      obtain⟨A,hA⟩:∃A,(l.map V.str).take k=A:=⟨_,rfl⟩;have hlen2:A.length=k:=by rw[<-hA,List.length_take,hln];omega
      have hkl:zA (l.length-k) (yK k (l.map V.str))=yK k (l.map V.str):=zj (by omega);rw[hA]at hres;have hml:zA l.length (l.map V.str)=l.map V.str:=zj (by omega);simp only[push_cast,seval,-Nat.reducePow,j0,j1,j5,h',hln,hg,hb,e,hres,hA];refine⟨h,h,hk,aEm ?_⟩;cases A with
      | nil=>simp only[List.length_nil]at hlen2;subst hlen2;simp only[push_cast,seval,-Nat.reducePow,j0,j1,j5,hln,hml];refine aEm ?_;simp only[push_cast,seval,-Nat.reducePow,j0,j1,j5,hln,hml];exact⟨by omega,by omega,aB7 (aAe _ _ _) (by simp[V.imms,V.imm,hli]) (by simp;omega)⟩
      | cons x r =>
        have e1:zA (r.length+1) (r++[V.str s])=r++[V.str s]:=zj (by simp);rw[zg]at hlen2;simp only[push_cast,seval,-Nat.reducePow,j0,j1,j5,hln,hml,zu,e1,hdl];refine⟨by omega,by omega,hk,by simp,by omega,?_⟩;have hxr:V.imms (x::r)=true:=by rw[<-hA,<-htm];exact aAp _
        have hdi:V.imms (yK k (l.map V.str))=true:=by rw[<-hdm];exact aAp _
        have hz:x::(r++[V.str s]++yK k (l.map V.str))=x::(r++V.str s::yK k (l.map V.str)):=by simp
        rw[hz];refine aB7 (aAe _ _ _) ?_ (by simp;omega);rw[<-yg,aGv,hxr,zy];simp only[V.imms,V.imm,hdi,zy]
  .have h':¬((k:Nat):Int)<((l.length:Nat):Int):=by omega
   obtain rfl:k=l.length:=by omega
   rw[yx,zu,putF]at hput;have hres:(putF s l).map V.str=l.map V.str++[V.str s]:=by rw[hput];simp
   have hml:zA l.length (l.map V.str)=l.map V.str:=zj (by omega);have hdz:yK l.length (l.map V.str)=[]:=List.drop_of_length_le (by omega);obtain⟨A,hA⟩:∃A,l.map V.str=A:=⟨_,rfl⟩;have hlen2:A.length=l.length:=by rw[<-hA,hln]
   rw[hA]at hres hml hdz j0 hli;have hmp:List.map V.str l=A:=hA;simp only[push_cast,seval,-Nat.reducePow,j0,j1,j5,h',hln,hlen2,hres,hml];refine aEm ?_;cases A with
   | nil =>
     simp only[push_cast,seval,-Nat.reducePow,j0,j1,j5,hlen2,hml,hdz];refine aEm ?_;simp only[push_cast,seval,-Nat.reducePow,j0,j1,j5,hlen2,hml,hdz];have hl0:l.length=0:=by simpa using hlen2.symm
     have hl1:l=[]:=List.length_eq_zero_iff.1 hl0;subst hl1;exact⟨by simp,by simp,aB7 (aAe _ _ _) (by simp[V.imms,V.imm]) (by simp)⟩
   | cons x r=>have e1:zA (r.length+1) (r++[V.str s])=r++[V.str s]:=zj (by simp);rw[zg]at hlen2;simp only[push_cast,seval,-Nat.reducePow,j0,j1,j5,hln,hlen2,hml,hdz,zu,e1];have e2:zA l.length (r++[V.str s])=r++[V.str s]:=zj (by simp;omega);rw[e2];refine⟨by omega,by omega,by simp;omega,by omega,aB7 (aAe _ _ _) ?_ (by simp;omega)⟩;rw[<-yg,aGv,hli,zy];simp only[V.imms,V.imm,zy]
theorem bM0{gs:List Gro}{i:Nat}(h:i<gs.length):∃q,gs[i]?=some q∧(grV gs).getD i .junk=.agg [.str q.n,.lst 1 (q.m.map .str)]∧q∈gs:=⟨gs[i],by simp[h],by simp[grV,zI,h,Gro.v],List.getElem_mem h⟩
theorem t219(hf:bE2 P F T)(h217:aSe P F T)(h193:aUr P F T)(g:Gro)(u:Tx)(l:List Tx)(hl:l.length<=1000)(hm60:g.m.length<=2^60):PTr P (F 219) [g.v,.str u,.lst 1 (l.map .str)] (.bool (belG u l g)):=by
 refine ptrC [] hf (by simp) rfl ?_;obtain⟨gn,ms⟩:=g;have hm60:ms.length<=2^60:=hm60;have hln:(ms.map V.str).length=ms.length:=zb ..;have hmi:=aAp ms;have hli:=aAp l;have c1:=t217 h217 u;simp only[c219,push_cast,seval,-Nat.reducePow,Gro.v,hmi];refine aAd (λm s1=>∃i,i<=ms.length∧m=ms.length-i∧belG u l ⟨gn,ms⟩=(ms.drop i).any (belM u l)∧s1.env 1=.str u∧s1.env 2=.lst 1 (l.map .str)∧s1.env 3=.ptr 3 0∧s1.L 3=some (.box (T 22) [.str gn,.lst 1 (ms.map .str)])∧s1.env 7=.int .i64 i) ms.length ⟨0,?_⟩ λm s1 hJ=>?_
 .simp only[push_cast,seval,-Nat.reducePow];exact⟨rfl,rfl⟩
 .obtain⟨i,hi,rfl,hb,j1,j2,j3,jB,j7⟩:=hJ;by_cases h:i<ms.length
  .have h':((i:Nat):Int)<((ms.length:Nat):Int):=by omega
   have hg:=aEe h;have hd:ms.drop i=ms.getD i []::ms.drop (i+1):=by rw[zH h];simp[zI,h]
   rw[hd,List.any_cons]at hb;obtain⟨m,hm⟩:∃m,ms.getD i []=m:=⟨_,rfl⟩;rw[hm]at hg hb;have c2:=t193 h193 l (m.drop 1) (by omega);have go:belM u l m=false->belG u l ⟨gn,ms⟩=(ms.drop (i+1)).any (belM u l):=λe=>by rw[hb,e,yw]
   have hit:belM u l m=true->belG u l ⟨gn,ms⟩=true:=λe=>by rw[hb,e,Bool.true_or]
   have tailG:∀(z:Bool),z=(decide (0<m.length)&&decide ((m.getD 0 0).toNat=64)&&l.contains (m.drop 1))->(aCr u&&decide (m=u))=false->belM u l m=z:=λz hz e=>by unfold belM;rw[e,yw,hz]
   simp only[push_cast,seval,-Nat.reducePow,j1,j2,j3,jB,j7,h',hln,hg];refine⟨h,aAa c1 (by simp only[push_cast,seval,-Nat.reducePow]) (by simp only[push_cast,seval,-Nat.reducePow]) ?_⟩;cases hnb:aCr u with
   | true =>
     by_cases hmu:m=u
     .have e:belM u l m=true:=by unfold belM;simp[hnb,hmu]
      subst hmu;simp only[push_cast,seval,-Nat.reducePow,j1,j2,j3,jB,j7,hnb,view,hit e]
     .have hmu':decide (m=u)=false:=decide_eq_false hmu;have key:belM u l m=(decide (0<m.length)&&decide ((m.getD 0 0).toNat=64)&&l.contains (m.drop 1)):=tailG _ rfl (by simp[hnb,hmu]);by_cases b1:0<m.length
      .have b1':(0:Int)<((m.length:Nat):Int):=by omega
       have b1n:1<=m.length:=b1;have hti:(1:Int).toNat=1:=rfl;have htl:zA m.length m=m:=zu;by_cases b2:(m.getD 0 0).toNat=64
       .have b2':(((m.getD 0 0).toNat:Nat):Int)=64:=by omega
        rw[decide_eq_true b1,decide_eq_true b2,zy,zy]at key;simp only[push_cast,seval,-Nat.reducePow,j1,j2,j3,jB,j7,hnb,hmu,b1,b1',b2',b1n,htl];refine aAa c2 (by simp only[push_cast,seval,-Nat.reducePow,hli]) (by simp only[push_cast,seval,-Nat.reducePow]) ?_;cases e:l.contains (m.drop 1)with
        | true=>rw[e]at key;simp only[push_cast,seval,-Nat.reducePow,j1,j2,j3,jB,j7,view,hit key]
        | false=>rw[e]at key;simp only[push_cast,seval,-Nat.reducePow,j1,j2,j3,jB,j7];exact⟨⟨by omega,by omega⟩,ms.length-(i+1),by omega,i+1,by omega,rfl,go key,by simp⟩
       .have b2':¬(((m.getD 0 0).toNat:Nat):Int)=64:=by omega
        rw[decide_eq_true b1,decide_eq_false b2,zy,zi]at key;simp only[push_cast,seval,-Nat.reducePow,j1,j2,j3,jB,j7,hnb,hmu,b1,b1',b2'];exact⟨⟨by omega,by omega⟩,ms.length-(i+1),by omega,i+1,by omega,rfl,go key,by simp⟩
      .have b1':¬(0:Int)<((m.length:Nat):Int):=by omega
       rw[decide_eq_false b1,zi,zi]at key;simp only[push_cast,seval,-Nat.reducePow,j1,j2,j3,jB,j7,hnb,hmu,b1'];exact⟨⟨by omega,by omega⟩,ms.length-(i+1),by omega,i+1,by omega,rfl,go key,by simp⟩
   | false =>
     have key:belM u l m=(decide (0<m.length)&&decide ((m.getD 0 0).toNat=64)&&l.contains (m.drop 1)):=tailG _ rfl (by simp[hnb]);by_cases b1:0<m.length
     .have b1':(0:Int)<((m.length:Nat):Int):=by omega
      have b1n:1<=m.length:=b1;have hti:(1:Int).toNat=1:=rfl;have htl:zA m.length m=m:=zu;by_cases b2:(m.getD 0 0).toNat=64
      .have b2':(((m.getD 0 0).toNat:Nat):Int)=64:=by omega
       rw[decide_eq_true b1,decide_eq_true b2,zy,zy]at key;simp only[push_cast,seval,-Nat.reducePow,j1,j2,j3,jB,j7,hnb,b1,b1',b2',b1n,htl];refine aAa c2 (by simp only[push_cast,seval,-Nat.reducePow,hli]) (by simp only[push_cast,seval,-Nat.reducePow]) ?_;cases e:l.contains (m.drop 1)with
       | true=>rw[e]at key;simp only[push_cast,seval,-Nat.reducePow,j1,j2,j3,jB,j7,view,hit key]
       | false=>rw[e]at key;simp only[push_cast,seval,-Nat.reducePow,j1,j2,j3,jB,j7];exact⟨⟨by omega,by omega⟩,ms.length-(i+1),by omega,i+1,by omega,rfl,go key,by simp⟩
      .have b2':¬(((m.getD 0 0).toNat:Nat):Int)=64:=by omega
       rw[decide_eq_true b1,decide_eq_false b2,zy,zi]at key;simp only[push_cast,seval,-Nat.reducePow,j1,j2,j3,jB,j7,hnb,b1,b1',b2'];exact⟨⟨by omega,by omega⟩,ms.length-(i+1),by omega,i+1,by omega,rfl,go key,by simp⟩
     .have b1':¬(0:Int)<((m.length:Nat):Int):=by omega
      rw[decide_eq_false b1,zi,zi]at key;simp only[push_cast,seval,-Nat.reducePow,j1,j2,j3,jB,j7,hnb,b1'];exact⟨⟨by omega,by omega⟩,ms.length-(i+1),by omega,i+1,by omega,rfl,go key,by simp⟩
  .have h':¬((i:Nat):Int)<((ms.length:Nat):Int):=by omega
   obtain rfl:i=ms.length:=by omega
   rw[yx,List.any_nil]at hb;simp only[push_cast,seval,-Nat.reducePow,j1,j2,j3,jB,j7,h',hln,hb,view]
theorem aLe(u:Tx):∀(a b:List Gro) (l:List Tx),rndG u (a++b) l=rndG u b (rndG u a l)
 | [],b,l=>rfl
 | g::a,b,l=>by simp only[yg,rndG];exact aLe u a b _
theorem t209(hf:bL7 P F T)(h217:aSe P F T)(h193:aUr P F T)(h218:bCg P F T)(h219:bE2 P F T)(gs:List Gro)(rv dv:List V)(hrv:V.imms rv=true)(hdv:V.imms dv=true)(u:Tx)(hgl:gs.length<=100)(hm:∀g,g∈gs->g.m.length<=2^60):
 PTr P (F 209) [.agg [.lst 2 (grV gs),.lst 6 rv,.lst 5 dv],.str u] (.lst 1 ((grpF u gs).map .str)):=by
 refine ptrC [] hf (by simp) (by simp[V.imm,aAp]) ?_;have hgi:=aA6 gs;have hgn:=aCx gs;have c1:=t217 h217 u;have c2:=t218 h218 [aT] uT (by simp);have hp0:putF uT [aT]=[aT,uT]:=rfl;rw[hp0]at c2;simp only[aT,uT,zE,List.map_nil]at c2;simp only[c209,push_cast,seval,-Nat.reducePow,hgi,hrv,hdv];have g0s:=aH3 u;have g0g:=aHp u gs;refine aAx (λs=>s.env 1=.str u∧s.env 2=.ptr 2 0∧s.L 2=some (.box (T 16) [.lst 2 (grV gs),.lst 6 rv,.lst 5 dv])∧s.env 5=.lst 1 ((grp0 u).map .str)∧3<=s.nx) ?_ ?_
 .simp only[push_cast,seval,-Nat.reducePow];refine aAa c1 (by simp only[push_cast,seval,-Nat.reducePow]) (by simp only[push_cast,seval,-Nat.reducePow]) ?_;cases hn:aCr u with
  | true =>
    have e:grp0 u=[aT,uT]:=by unfold grp0;rw[hn];rfl
    rw[e];simp only[push_cast,seval,-Nat.reducePow];refine aAa c2 (by simp only[push_cast,seval,-Nat.reducePow]) (by simp only[push_cast,seval,-Nat.reducePow]) ?_;simp only[push_cast,seval,-Nat.reducePow,aT,uT]
  | false =>
    have e:grp0 u=[aT]:=by unfold grp0;rw[hn];rfl
    rw[e];simp only[push_cast,seval,-Nat.reducePow,aT]
 .rintro s0 ⟨k1,k2,kB,k5,kn⟩;simp only[push_cast,seval,-Nat.reducePow,k1,k2,kB,k5];refine aAd (λm s=>∃(l:List Tx) (n:Int),m=2*(gs.length+3-l.length)+(if n<l.length then 1 else 0)∧srt l∧(∀x,x∈l->isG gs x)∧((n<l.length∧∃k,gs.length+3<=k+l.length∧grpF u gs=itF u gs k l)∨(¬n<l.length∧grpF u gs=l)) ∧
   s.env 1=.str u∧s.env 2=.ptr 2 0∧s.L 2=some (.box (T 16) [.lst 2 (grV gs),.lst 6 rv,.lst 5 dv])∧s.env 5=.lst 1 (l.map .str)∧s.env 6=.int .i64 n∧3<=s.nx) (2*(gs.length+3-(grp0 u).length)+1) ⟨grp0 u,-1,?_⟩ λm s hJ=>?_
  .have hneg:(-1:Int)<(((grp0 u).length:Nat):Int):=by omega
   simp only[push_cast,seval,-Nat.reducePow,k1,k2,kB,k5,hneg];exact⟨g0s,g0g,.inl ⟨gs.length+4,by omega,rfl⟩⟩
  .obtain⟨l,n,rfl,hs,hg,hcase,j1,j2,jB,j5,j6,jn⟩:=hJ;have hll:=aNn hs hg;have hln:(l.map V.str).length=l.length:=zb ..;rcases hcase with⟨hlt,k,hk,hgr⟩|⟨hnl,hgr⟩
   .simp only[push_cast,seval,-Nat.reducePow,j1,j2,jB,j5,j6,hln,hlt];refine aAd (λm s=>∃i,i<=gs.length∧m=gs.length-i∧s.env 1=.str u∧s.env 2=.ptr 2 0∧s.L 2=some (.box (T 16) [.lst 2 (grV gs),.lst 6 rv,.lst 5 dv])∧s.env 5=.lst 1 ((rndG u (gs.take i) l).map .str)∧s.env 6=.int .i64 l.length∧s.env 7=.int .i64 i∧3<=s.nx) gs.length ⟨0,?_⟩ λm s hJ=>?_
    .simp only[push_cast,seval,-Nat.reducePow,j1,j2,jB,j5,j6,rndG];exact rfl
    .obtain⟨i,hi,rfl,i1,i2,iB,i5,i6,i7,in_⟩:=hJ;have hsub:∀g,g∈gs.take i->g∈gs:=λg h=>List.mem_of_mem_take h;obtain⟨a1,a2,a3,a4,a5,a6⟩:=aHx u gs (gs.take i) l hsub hs hg;have hrl:=aNn a1 a2;obtain⟨R,hR⟩:∃R,rndG u (gs.take i) l=R:=⟨_,rfl⟩;rw[hR]at i5 a1 a2 hrl;have hRi:=aAp R;by_cases h:i<gs.length
     .have h':((i:Nat):Int)<((gs.length:Nat):Int):=by omega
      obtain⟨q,hq,hqv,hqm⟩:=bM0 h;have ht:gs.take (i+1)=gs.take i++[q]:=by rw[List.take_add_one,hq];rfl
      have hR2:rndG u (gs.take (i+1)) l=if belG u R q then putF q.n R else R:=by rw[ht,aLe,hR];rfl
      have cb:=t219 h219 h217 h193 q u R (by omega) (hm q hqm);have cp:=t218 h218 R q.n (by omega);have hqi:=aAp q.m;simp only[Gro.v]at cb;simp only[push_cast,seval,-Nat.reducePow,i1,i2,iB,i5,i6,i7,h',hgn,hqv];refine⟨h,aAa cb (by simp only[push_cast,seval,-Nat.reducePow,hqi,hRi]) (by simp only[push_cast,seval,-Nat.reducePow]) ?_⟩;cases hb:belG u R q with
      | true=>rw[hb,if_pos rfl]at hR2;simp only[push_cast,seval,-Nat.reducePow,i1,i2,iB,i5,i6,i7,hgn,hqv,h];refine aAa cp (by simp only[push_cast,seval,-Nat.reducePow,hRi]) (by simp only[V.imm];exact aAp _) ?_;simp only[push_cast,seval,-Nat.reducePow,i1,i2,iB,i5,i6,i7];exact⟨⟨by omega,by omega⟩,gs.length-(i+1),by omega,i+1,by omega,rfl,by rw[hR2],by simp⟩
      | false=>rw[hb,if_neg (by simp)]at hR2;simp only[push_cast,seval,-Nat.reducePow,i1,i2,iB,i5,i6,i7];exact⟨⟨by omega,by omega⟩,gs.length-(i+1),by omega,i+1,by omega,rfl,by rw[hR2],by simp⟩
     .have h':¬((i:Nat):Int)<((gs.length:Nat):Int):=by omega
      obtain rfl:i=gs.length:=by omega
      rw[zu]at hR a3 a4 a5 a6;rw[hR]at a3 a4 a5 a6;obtain⟨k,rfl⟩:∃k',k=k'+1:=⟨k-1,by omega⟩;rw[itF,hR]at hgr;simp only[push_cast,seval,-Nat.reducePow,i1,i2,iB,i5,i6,i7,h',hgn];by_cases hgrow:l.length<R.length
      .have hgrow':((l.length:Nat):Int)<((R.length:Nat):Int):=by omega
       rw[if_pos hgrow]at hgr;exact⟨2*(gs.length+3-R.length)+1,by omega,R,l.length,by rw[if_pos hgrow'],a1,a2,.inl ⟨hgrow',k,by omega,hgr⟩,rfl,rfl⟩
      .have hgrow':¬((l.length:Nat):Int)<((R.length:Nat):Int):=by omega
       rw[if_neg hgrow]at hgr;exact⟨2*(gs.length+3-R.length)+0,by omega,R,l.length,by rw[if_neg hgrow'],a1,a2,.inr ⟨hgrow',hgr⟩,rfl,rfl⟩
   .simp only[push_cast,seval,-Nat.reducePow,j1,j2,jB,j5,j6,hln,hnl,hgr];simp only[view]
end Go.Ab
namespace Go.Ab
variable {P:Program} {F T:Nat->Nat}
structure RGrC(P:Program)(F T:Nat->Nat):Prop where
 h209:bL7 P F T
 h217:aSe P F T
 h193:aUr P F T
 h218:bCg P F T
 h219:bE2 P F T
end Go.Ab
