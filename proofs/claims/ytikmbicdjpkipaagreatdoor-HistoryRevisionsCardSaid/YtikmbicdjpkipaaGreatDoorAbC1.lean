import Derived.Test.YtikmbicdjpkipaaGreatDoorAbE4
import Derived.Lib.IndexMore
import Derived.Lib.SplitLaws
import Derived.Lib.CountLaws
import Derived.Test.YtikmbicdjpkipaaGreatDoorAbZ1
import Derived.Lib.Split
import Derived.Lib.IndexBytes
import Derived.Test.YtikmbicdjpkipaaGreatDoorAbP1
import Derived.Deep.Draws
open List renaming cons_append->yg,findIdx?_cons->yG,drop_eq_getElem_cons->zH,isPrefixOf->yI
open Nat renaming add_comm->vc,le_refl->zz
open ByteArray renaming size->zC
set_option linter.unusedSimpArgs false
set_option linter.unusedVariables false
namespace Go.Ab
def aAj:List UInt8->List (List UInt8)
 | []=>[[]]
 | x::r=>if x=47 then[]::aAj r else(x::(aAj r).headD [])::(aAj r).tail
theorem bBn:∀s:List UInt8,aAj s≠[]
 | []=>by simp[aAj]
 | x::r=>by simp only[aAj];grind
theorem aFf(s:List UInt8):∃p q,aAj s=p::q:=by
 cases h:aAj s with
 | nil=>exact absurd h (bBn s)
 | cons p q=>simp
theorem aK5:∀{s:List UInt8},(∀b,b∈s->b≠47)->aAj s=[s]
 | [],_=>rfl
 | x::r,h=>by have ih:=aK5 (s:=r) (λb hb=>h b (by grind));have hx:=h x (by simp);simp[aAj,hx,ih]
theorem aKu:∀{u v:List UInt8},(∀b,b∈u->b≠47)->aAj (u++47::v)=u::aAj v
 | [],v,_=>by rfl
 | x::r,v,h=>by have ih:=aKu (u:=r) (v:=v) (λb hb=>h b (by grind));have hx:=h x (by simp);simp[aAj,hx,ih]
theorem aO3:∀t:List UInt8,aAj (t++[47])=aAj t++[[]]
 | []=>by rfl
 | x::r=>by have ih:=aO3 r;obtain⟨p,q,hp⟩:=aFf r;simp only[yg,aAj,ih];grind
theorem aKv{c:UInt8}(hc:c≠47):∀t:List UInt8,∃a b,aAj t=a++[b]∧aAj (t++[c])=a++[b++[c]]
 | []=>⟨[],[],by rfl,by simp[aAj,hc]⟩
 | x::r=>by
   obtain⟨a,b,h1,h2⟩:=aKv hc r;simp only[yg,aAj,h1,h2];by_cases hx:x=47
   .grind
   .simp only[hx,if_false];cases a with
    | nil=>exact⟨[],x::b,by simp,by simp⟩
    | cons y a=>grind
def lowB(b:UInt8):UInt8:=if 65<=b.toNat∧b.toNat<=90 then UInt8.ofNat (b.toNat+32)else b
theorem aS5(b:UInt8):(lowB b).toNat=if 65<=b.toNat∧b.toNat<=90 then b.toNat+32 else b.toNat:=by
 unfold lowB;split
 .rename_i h;simp;omega
 .rfl
def lowL(s:List UInt8):List UInt8:=s.map lowB
def aHn(n:Nat):List UInt8:=[[],[84,97,108,107],[85,115,101,114],[84,101,109,112,108,97,116,101],[67,97,116,101,103,111,114,121],[80,114,111,106,101,99,116]].getD n []
def unbl(s:List UInt8):List UInt8:=if s.getLast?=some 32 then s.dropLast else s
def nsF(p:List UInt8):Nat->Nat->Nat
 | 0,_=>0
 | k+1,n=>if lowL p=lowL (aHn n)then n else nsF p k (n+1)
def colF(s:List UInt8):Option Nat:=s.findIdx? (·==58)
def aGl(s:List UInt8):Nat:=match colF s with
 | none=>0
 | some i=>nsF (unbl (s.take i)) 5 1
def badB(c:UInt8):Bool:=decide (c.toNat<32)||decide (c.toNat=127)||[60,62,91,93,123,125,124,35,95].contains c
def aD7(pb:Bool):List UInt8->Bool
 | []=>true
 | c::r=>!badB c&&!(decide (c=32)&&pb)&&aD7 (decide (c=32)) r
def aG7(p:List UInt8):Bool:=!decide (p=[])&&!decide (p.getD 0 0=32)&&!decide (p.getD (p.length-1) 0=32)
def aIn(s:List UInt8):Bool:=decide ((s.getD 0 0).toNat=58)||(decide (97<=(s.getD 0 0).toNat)&&decide ((s.getD 0 0).toNat<=122))
def aBb(sp:Int)(s:List UInt8):Bool:=
 decide (0<=sp)&&decide (sp<6)&&decide (1<=s.length)&&decide (s.length<=100)&&aD7 false s&&(aAj s).all aG7&&!aIn s&&(!decide (sp=0)||decide (aGl s=0))
def anc(sp:Int)(s:List UInt8):Nat->List (List UInt8)
 | 0=>[]
 | i+1=>anc sp s i++(if s.getD i 0=47 then[s.take i]else[])
variable {P:Program} {F T:Nat->Nat}
open Go.Lib
theorem aEz(c:UInt8):∀s:List UInt8,indexByte s c=match s.findIdx? (·==c)with|none=>-1|some i=>(i:Int)
 | []=>rfl
 | x::r=>by
   have ih:=aEz c r;by_cases hx:x=c
   .subst hx;simp[indexByte,yG]
   .have hx':(x==c)=false:=by grind
    simp only[indexByte,hx',yG,Bool.false_eq_true,if_false];grind
theorem aL5{c:UInt8}{s:List UInt8}{i:Nat}(h:s.findIdx? (·==c)=some i):s=s.take i++c::s.drop (i+1)∧(∀b,b∈s.take i->b≠c)∧i<s.length:=by
 rw[List.findIdx?_eq_some_iff_getElem]at h;obtain⟨hi,h1,h2⟩:=h;have hc:s[i]=c:=by grind
 refine⟨?_,λb hb=>?_,hi⟩
 .conv=>lhs;rw[<-List.take_append_drop i s,zH hi,hc]
 .obtain⟨j,hj,rfl⟩:=List.mem_iff_getElem.1 hb;grind
theorem aOe{c:UInt8}{s:List UInt8}(h:s.findIdx? (·==c)=none):∀b,b∈s->b≠c:=by
 grind
theorem aGy:∀(n:Nat) (s:List UInt8),s.length<=n->split s [47]=aAj s:=by
 intro n;induction n with
 | zero=>intro s hs;have:s=[]:=List.length_eq_zero_iff.1 (by omega);subst this;rfl
 | succ n ih =>
   intro s hs;have hix:index s [47]=indexByte s 47:=index_one s 47;rw[aEz]at hix;cases hf:s.findIdx? (·==47)with
   | none=>rw[hf]at hix;rw[split,count_miss hix,splitK,aK5 (aOe hf)]
   | some i =>
     rw[hf]at hix;simp only at hix;obtain⟨h1,h2,h3⟩:=aL5 hf;have hm:¬(index s [47]==-1)=true:=λe=>by grind
     have ht:(index s [47]).toNat=i:=by omega
     have ih':=ih (s.drop (i+1)) (by grind);rw[split,count_hit (by simp) hix,vc,splitK,if_neg hm,ht,Nat.add_zero];rw[split]at ih';simp only[List.length_singleton];rw[ih']
     conv=>rhs;rw[h1,aKu h2]
structure TitC(P:Program)(F:Nat->Nat):Prop where
 split:∀s:List UInt8,s.length<=100000->PTr P (F 171) [.str s,.str [47]] (.lst 1 ((aAj s).map .str))
 cut:∀s:List UInt8,s.length<=100000->PTr P (F 172) [.str s,.str [58]] (match colF s with|none=>.tup [.str s,.str [],.bool false]|some i=>.tup [.str (s.take i),.str (s.drop (i+1)),.bool true])
 tsuf:∀s:List UInt8,s.length<=100000->PTr P (F 173) [.str s,.str [32]] (.str (unbl s))
 ib:∀(s:List UInt8) (c:UInt8),PTr P (F 120) [.str s,.int .u8 c.toNat] (.int .i64 (indexByte s c))
end Go.Ab
namespace Go.Ab
open Go.Lib
theorem bBv(l:List UInt8)(c:UInt8):0<=indexByte l c↔l.contains c=true:=by
 rw[aEz];grind
def pbAt(s:List UInt8)(i:Nat):Bool:=decide (0<i)&&decide ((s.getD (i-1) 0).toNat=32)
theorem eq32(c:UInt8):c=32↔c.toNat=32:=⟨λe=>by simp_all,λe=>by
 have:c=UInt8.ofNat c.toNat:=by simp
 rw[this,e];rfl⟩
theorem aMa(s:List UInt8){i:Nat}(h:i<s.length):aD7 (pbAt s i) (s.drop i)=(!badB (s.getD i 0)&&!(decide ((s.getD i 0).toNat=32)&&pbAt s i)&&aD7 (pbAt s (i+1)) (s.drop (i+1))):=by
 have e1:s.getD i 0=s[i]:=by grind
 have e2:pbAt s (i+1)=decide (s[i].toNat=32):=by simp[pbAt,List.getD,h]
 rw[zH h,aD7,e1,e2];simp only[eq32]
theorem aOt(s:List UInt8)(b:Bool):aD7 b (s.drop s.length)=true:=by simp[aD7]
theorem aNo(sp:Int)(s:List UInt8)(i:Nat):anc sp s (i+1)=anc sp s i++(if s.getD i 0=47 then[s.take i]else[]):=rfl
def ancV(sp:Int)(l:List (List UInt8)):List V:=l.map λq=>.agg [.int .i64 sp,.str q]
structure Scp where
 k:Int
 sp:Int
 n:List UInt8
def Scp.v(x:Scp):V:=.agg [.int .i64 x.k,.int .i64 x.sp,.str x.n]
def scV(l:List Scp):List V:=l.map Scp.v
def levF(sp:Int)(s:List UInt8):List Scp:=⟨3,sp,s⟩::((anc sp s s.length).reverse.map λq=>⟨3,sp,q⟩)++[⟨2,sp,[]⟩,⟨1,0,[]⟩]
def covB(a b:Scp):Bool:=if a.k=b.k then(if a.k=3 then decide (a.sp=b.sp)&&decide (a.n=b.n)else if a.k=2 then decide (a.sp=b.sp)else true)else false
structure Rul where
 al:Bool
 ri:Int
 gr:List UInt8
 sc:Scp
def Rul.v(x:Rul):V:=.agg [.bool x.al,.int .i64 x.ri,.str x.gr,.int .i64 x.sc.k,.int .i64 x.sc.sp,.str x.sc.n]
def ruV(l:List Rul):List V:=l.map Rul.v
def hitB(g:List (List UInt8))(right:Int)(lv:Scp)(r:Rul):Bool:=decide (r.ri=right)&&g.contains r.gr&&covB r.sc lv
def aJt(g:List (List UInt8))(right:Int)(lv:Scp):List Rul->Bool×Bool->Bool×Bool
 | [],x=>x
 | r::rs,x=>aJt g right lv rs (if hitB g right lv r then(true,x.2&&r.al)else x)
def mayL(rs:List Rul)(g:List (List UInt8))(right:Int):List Scp->Bool
 | []=>false
 | lv::l=>if(aJt g right lv rs (false,true)).1 then(aJt g right lv rs (false,true)).2 else mayL rs g right l
def mayF(rs:List Rul)(g:List (List UInt8))(right sp:Int)(s:List UInt8):Bool:=
 aBb sp s&&decide (1<=right)&&decide (right<=5)&&mayL rs g right (levF sp s)
variable {P:Program} {F T:Nat->Nat}
theorem bAk{D:Nat->Prop}{w:World}(hD:∀b,D b->b<w.heap.size)(l:List (List UInt8))(n ty:Nat)(hn:n=l.length)(hl:∀q,q∈l->q.length<2^63)(hn2:n<2^63):
 Rep (λ_=>none) D (w.alloc (.cells ((l.map λq=>Value.string ⟨q.toArray⟩).toArray) ty)) (.lst 1 (l.map .str)) (.slice (some ⟨w.heap.size,0,none⟩) n n):=by
 have hc:∀(i j:Nat) (c:V),(((l.map V.str)[i]?).bind λe=>e.cells[j]?)=some c->∃q,l[i]?=some q∧j=0∧c=.str q:=by
  intro i j c h;cases hq:l[i]? with
  | none=>grind
  | some q=>simp only[List.getElem?_map,hq,Option.map_some,Option.bind_some,V.cells]at h;grind
 have hcell:∀(i:Nat) (q:List UInt8),l[i]?=some q->(w.alloc (.cells ((l.map λq=>Value.string ⟨q.toArray⟩).toArray) ty)).cell? ⟨w.heap.size,i,none⟩=some (.string ⟨q.toArray⟩):=by simp
 have hlen:n=(l.map V.str).length:=by grind
 rw[hlen];refine .lst 1 _ _ _ w.heap.size 0 (zz _) (by omega) (λ_=>⟨rfl,by simp,λh=>by grind⟩) (λe he=>?_) (λi j c h=>?_) (λi j c h=>?_)
 .obtain⟨q,_,rfl⟩:=List.mem_map.1 he;rfl
 .obtain⟨q,h1,rfl,rfl⟩:=hc i j c h;grind
 .obtain⟨q,h1,rfl,rfl⟩:=hc i j c h;rw[show 0+i*1+0=i by omega,aDk,hcell i q h1];exact .str _ (hl q (List.mem_of_getElem? h1))
theorem aD6{s:List UInt8}:∀q,q∈aAj s->q.length<=s.length:=by
 induction s with
 | nil=>intro q hq;simp[aAj]at hq;grind
 | cons x r ih=>intro q hq;obtain⟨p,u,hp⟩:=aFf r;simp only[aAj,hp]at hq ih;grind
theorem bD0(s:List UInt8):trimSuffix s [32]=unbl s:=by
 unfold trimSuffix unbl;rcases List.eq_nil_or_concat s with rfl|⟨u,x,rfl⟩
 .rfl
 .have e1:hasSuffix (u.concat x) [32]=((32:UInt8)==x):=by simp[hasSuffix,List.isSuffixOf,yI]
  grind
theorem bLz(s:List UInt8):cut s [58]=match colF s with|none=>(s,[],false)|some i=>(s.take i,s.drop (i+1),true):=by
 have hi:index s [58]=indexByte s 58:=index_one s 58;rw[aEz]at hi;unfold cut colF;grind
theorem bIp{x:Nat}{ty:Nat}(g:gint P x)
 (h1:∀(s sep:ByteArray) (m:Int) (w:World),s.size<4294967281->w.cell? ⟨x,0,none⟩=some (.int .i64 m)->1<=sep.size ->
  Calls P (F 171) #[.string s,.string sep] w λe w'=>e=.returned (.slice (some ⟨w.heap.size,0,none⟩) (countB s sep+1) (countB s sep+1))∧w'=w.alloc (.cells ((splitB sep 0 (countB s sep) s).map Value.string).toArray ty))
 (h2:∀(s sep:ByteArray) (m:Int) (w:World),s.size<4294967281->w.cell? ⟨x,0,none⟩=some (.int .i64 m) ->
  Calls P (F 172) #[.string s,.string sep] w λe w'=>e=.returned (.tuple #[.string ⟨(cut s.data.toList sep.data.toList).1.toArray⟩,.string ⟨(cut s.data.toList sep.data.toList).2.1.toArray⟩,.bool (cut s.data.toList sep.data.toList).2.2])∧∃n,w'=w.drewN n)
 (h3:∀(s p:ByteArray) (w:World),s.size<=9223372036854775807->Calls P (F 173) #[.string s,.string p] w λe w'=>e=.returned (.string ⟨(trimSuffix s.data.toList p.data.toList).toArray⟩)∧w'=w)
 (h4:∀(s:ByteArray) (c:Int) (w:World),Calls P (F 120) #[.string s,.int .u8 c] w λe w'=>e=.returned (.int .i64 (indexByte s.data.toList c.toNat.toUInt8))∧w'=w):TitC P F:=by
 refine⟨λs hs=>?_,λs hs=>?_,λs hs=>?_,λs c=>?_⟩
 .intro D w vs hD hg hl hr;obtain⟨u,v,rfl,hu,hv⟩:=vs2 hl hr;cases hu;cases hv
  obtain⟨m,hm⟩:=hg.1 x g;refine(h1 ⟨s.toArray⟩ ⟨([47]:List UInt8).toArray⟩ m w (by simp[zC];omega) hm (by simp[zC])).mono ?_;rintro e w' ⟨rfl,rfl⟩;have hd:=splitB_data ⟨([47]:List UInt8).toArray⟩ 0 (countB ⟨s.toArray⟩ ⟨([47]:List UInt8).toArray⟩) ⟨s.toArray⟩;have hsp:=aGy s.length s (zz _);have hall:=splitB_all ⟨([47]:List UInt8).toArray⟩ (by simp[zC]) 0 _ ⟨s.toArray⟩ rfl;have hd2:(splitB ⟨([47]:List UInt8).toArray⟩ 0 (countB ⟨s.toArray⟩ ⟨([47]:List UInt8).toArray⟩) ⟨s.toArray⟩).map (·.data.toList)=aAj s:=by rw[hd];exact hsp
  generalize splitB ⟨([47]:List UInt8).toArray⟩ 0 (countB ⟨s.toArray⟩ ⟨([47]:List UInt8).toArray⟩) ⟨s.toArray⟩=l at *;have hl2:l.length=(aAj s).length:=by grind
  have hmap:l.map Value.string=(aAj s).map λq=>Value.string ⟨q.toArray⟩:=by rw[<-hd2,List.map_map];rfl
  rw[hmap];have hcn:=count_le s [47];have hcn2:countB ⟨s.toArray⟩ ⟨([47]:List UInt8).toArray⟩=count s [47]:=rfl;refine⟨_,rfl,aBr w _,bAk hD (aAj s) _ ty (by omega) (λq hq=>by have:=aD6 q hq;omega) (by omega)⟩
 .intro D w vs hD hg hl hr;obtain⟨u,v,rfl,hu,hv⟩:=vs2 hl hr;cases hu;cases hv
  obtain⟨m,hm⟩:=hg.1 x g;refine(h2 ⟨s.toArray⟩ ⟨([58]:List UInt8).toArray⟩ m w (by simp[zC];omega) hm).mono ?_;rintro e w' ⟨rfl,n,rfl⟩;refine⟨_,rfl,?_,?_⟩
  .exact⟨rfl,rfl,rfl,zz _,λ_ _=>rfl⟩
  .have hc:=bLz s;show Rep _ _ _ _ (.tuple #[.string ⟨(cut s [58]).1.toArray⟩,.string ⟨(cut s [58]).2.1.toArray⟩,.bool (cut s [58]).2.2]);rw[hc];cases colF s with
   | none =>
     refine .tup _ _ rfl λi c hi=>?_
     match i,hi with
     | 0,hi=>simp at hi;subst hi;exact .str _ (by omega)
     | 1,hi=>simp at hi;subst hi;exact .str _ (by simp)
     | 2,hi=>simp at hi;subst hi;exact .bool _
   | some k =>
     refine .tup _ _ rfl λi c hi=>?_
     match i,hi with
     | 0,hi=>simp at hi;subst hi;exact .str _ (by grind)
     | 1,hi=>simp at hi;subst hi;exact .str _ (by grind)
     | 2,hi=>simp at hi;subst hi;exact .bool _
 .intro D w vs hD hg hl hr;obtain⟨u,v,rfl,hu,hv⟩:=vs2 hl hr;cases hu;cases hv
  refine(h3 ⟨s.toArray⟩ ⟨([32]:List UInt8).toArray⟩ w (by simp[zC];omega)).mono ?_;rintro e w' ⟨rfl,rfl⟩;refine⟨_,rfl,Go.RowKit.Below.refl _ _,?_⟩;show Rep _ _ _ _ (.string ⟨(trimSuffix s [32]).toArray⟩);rw[bD0];refine .str _ ?_;unfold unbl;grind
 .intro D w vs hD hg hl hr;obtain⟨u,v,rfl,hu,hv⟩:=vs2 hl hr;cases hu;cases hv
  refine(h4 ⟨s.toArray⟩ c.toNat w).mono ?_;rintro e w' ⟨rfl,rfl⟩;refine⟨_,rfl,Go.RowKit.Below.refl _ _,?_⟩;have:((c.toNat:Nat):Int).toNat.toUInt8=c:=by simp
  rw[this];exact .int _ _
end Go.Ab
namespace Go.Ab
open Go.Lib
theorem aNv(c:UInt8):∀(s:List UInt8) (i:Nat),idxF [c] s i=(s.findIdx? (·==c)).map (·+i)
 | [],i=>by simp[idxF]
 | x::r,i=>by
   have ih:=aNv c r (i+1);by_cases h:x=c
   .subst h;simp[idxF,yI,yG]
   .have h2:(x==c)=false:=by simpa using h
    have h3:(c==x)=false:=by rw[beq_eq_false_iff_ne];exact λe=>h e.symm
    simp only[idxF,yI,h3,Bool.false_and,Bool.false_eq_true,if_false,ih,yG,h2];cases r.findIdx? (·==c)<;>simp[Nat.add_assoc,vc 1]
structure Grd where
 st:Bool
 gr:List UInt8
 sp:Int
 n:List UInt8
 sec:List UInt8
def Grd.v(x:Grd):V:=.agg [.bool x.st,.str x.gr,.int .i64 x.sp,.str x.n,.str x.sec]
def gdV(l:List Grd):List V:=l.map Grd.v
end Go.Ab
namespace Go.Ab
def c178(F T:Nat->Nat):C:=.n [.box 4 (T 16) (.t 0),.box 7 (T 17) (.t 3),.mov (some 8) (.k (.bool false))]<|.seq (.seq (.ops false [⟨none,[.load (some 15) false 2 true (.t 7),.c 16 (F 185) [.t 15],.un (some 17) .not (.t 16),.m 18 17]⟩,⟨some (18,false),[.m 19 2,.bi 20 .lss 19 1]⟩,⟨none,[.pt 21 18 20,.m 22 21]⟩,⟨some (22,false),[.m 23 2,.bi 24 .gtr 23 5]⟩,⟨none,[.pt 25 22 24]⟩])<|.cond (.t 25) (.n [.mov (some 8) (.k (.bool false))]<|.ret) (.skip))<|.seq (.n [.load (some 26) false 2 true (.t 7),.c 27 (F 181) [.t 26],.ll 28 27,.mov (some 29) (.i 0)]<|.block 0<|.loop<|.n [.b 30 .lss 29 28]<|.seq (.cond (.t 30) (.skip) (.exit 0))<|.seq (.block 1<|.n [.ia 31 3 27 29,.load (some 32) false 3 true (.t 31),.alloc 10 (T 18) [(.int .i64 0),(.int .i64 0),(.str [])],.store 3 (.t 10) (.t 32)]<|.n [.mov (some 11) (.k (.bool false)),.mov (some 12) (.k (.bool true))]<|.seq (.n [.f 33 1 4,.l 34 33,.ll 35 34,.mov (some 36) (.i 0)]<|.block 2<|.loop<|.n [.b 37 .lss 36 35]<|.seq (.cond (.t 37) (.skip) (.exit 2))<|.seq (.block 3<|.n [.ia 38 6 34 36,.load (some 39) false 6 true (.t 38),.alloc 14 (T 19) [(.bool false),(.int .i64 0),(.str []),(.int .i64 0),(.int .i64 0),(.str [])],.store 6 (.t 14) (.t 39)]<|.seq (.ops false [⟨none,[.f 40 1 14,.l 41 40,.m 42 2,.b 43 .eql 41 42,.m 44 43]⟩,⟨some (44,true),[.m 45 1,.f 46 2 14,.l 47 46,.c 48 (F 220) [.t 45,.t 47]]⟩,⟨none,[.pf 49 44 48,.m 50 49]⟩,⟨some (50,true),[.f 51 3 14,.load (some 52) false 3 true (.t 51),.load (some 53) false 3 true (.t 10),.c 54 (F 182) [.t 52,.t 53]]⟩,⟨none,[.pf 55 50 54]⟩])<|.cond (.t 55) (.ops true [⟨none,[.m 56 12,.m 57 56]⟩,⟨some (57,true),[.f 58 0 14,.l 59 58]⟩,⟨none,[.pf 60 57 59,.mov (some 11) (.k (.bool true)),.m 12 60]⟩]) (.skip))<|.o [.bi 61 .add 36 1,.m 36 61])<|.n [.m 62 11]<|.cond (.t 62) (.n [.m 63 12,.m 8 63]<|.ret) (.skip))<|.o [.bi 64 .add 29 1,.m 29 64])<|.n [.mov (some 8) (.k (.bool false))]<|.ret
abbrev bIf(P:Program)(F T:Nat->Nat):Prop:=Fn P (F 178) 65 [(8,none)] (c178 F T)
def c182(F T:Nat->Nat):C:=.n [.box 2 (T 18) (.t 0),.box 3 (T 18) (.t 1),.mov (some 4) (.k (.bool false))]<|.seq (.n [.f 5 0 2,.l 6 5,.f 7 0 3,.l 8 7,.b 9 .neq 6 8]<|.cond (.t 9) (.n [.mov (some 4) (.k (.bool false))]<|.ret) (.skip))<|.seq (.n [.f 10 0 2,.l 11 10]<|.block 0<|.n [.bi 13 .eql 11 3,.m 12 13]<|.cond (.t 12) (.n [.f 14 1 2,.load (some 15) false 2 true (.t 14),.f 16 1 3,.load (some 17) false 2 true (.t 16),.eqA (some 18) false [0,1] (.t 15) (.t 17),.m 4 18]<|.ret) (.n [.bi 20 .eql 11 2,.m 19 20]<|.cond (.t 19) (.n [.f 21 1 2,.f 22 0 21,.l 23 22,.f 24 1 3,.f 25 0 24,.l 26 25,.b 27 .eql 23 26,.m 4 27]<|.ret) (.skip)))<|.n [.mov (some 4) (.k (.bool true))]<|.ret
abbrev bJy(P:Program)(F T:Nat->Nat):Prop:=Fn P (F 182) 28 [(4,none)] (c182 F T)
def c185(F T:Nat->Nat):C:=.n [.box 1 (T 17) (.t 0),.mov (some 2) (.k (.bool false))]<|.n [.f 9 1 1,.l 10 9,.m 3 10]<|.seq (.seq (.ops false [⟨none,[.f 11 0 1,.l 12 11,.bi 13 .lss 12 0,.m 14 13]⟩,⟨some (14,false),[.f 15 0 1,.l 16 15,.bi 17 .geq 16 6]⟩,⟨none,[.pt 18 14 17,.m 19 18]⟩,⟨some (19,false),[.m 20 3,.ls 21 20,.bi 22 .lss 21 1]⟩,⟨none,[.pt 23 19 22,.m 24 23]⟩,⟨some (24,false),[.m 25 3,.ls 26 25,.bi 27 .gtr 26 100]⟩,⟨none,[.pt 28 24 27,.m 29 28]⟩,⟨some (29,false),[.m 30 3,.c 31 (F 187) [.t 30],.un (some 32) .not (.t 31)]⟩,⟨none,[.pt 33 29 32]⟩])<|.cond (.t 33) (.n [.mov (some 2) (.k (.bool false))]<|.ret) (.skip))<|.seq (.n [.m 34 3,.c 35 (F 171) [.t 34,.s [47]],.ll 36 35,.mov (some 37) (.i 0)]<|.block 0<|.loop<|.n [.b 38 .lss 37 36]<|.seq (.cond (.t 38) (.skip) (.exit 0))<|.seq (.block 1<|.n [.ia 39 1 35 37,.l 40 39,.m 5 40]<|.seq (.ops false [⟨none,[.m 41 5,.bin (some 42) .eql (.t 41) (.s []),.m 43 42]⟩,⟨some (43,false),[.m 44 5,.idx (some 45) (.t 44) (.i 0),.bin (some 46) .eql (.t 45) (.k (.int .u8 32))]⟩,⟨none,[.pt 47 43 46,.m 48 47]⟩,⟨some (48,false),[.m 49 5,.m 50 5,.ls 51 50,.bi 52 .sub 51 1,.ix 53 49 52,.bin (some 54) .eql (.t 53) (.k (.int .u8 32))]⟩,⟨none,[.pt 55 48 54]⟩])<|.cond (.t 55) (.n [.mov (some 2) (.k (.bool false))]<|.ret) (.skip))<|.o [.bi 56 .add 37 1,.m 37 56])<|.seq (.seq (.ops false [⟨none,[.m 57 3,.idx (some 58) (.t 57) (.i 0),.bin (some 59) .eql (.t 58) (.k (.int .u8 58)),.m 60 59]⟩,⟨some (60,false),[.m 61 3,.idx (some 62) (.t 61) (.i 0),.bin (some 63) .geq (.t 62) (.k (.int .u8 97)),.m 64 63]⟩,⟨some (64,true),[.m 65 3,.idx (some 66) (.t 65) (.i 0),.bin (some 67) .leq (.t 66) (.k (.int .u8 122))]⟩,⟨some (60,false),[.pf 68 64 67]⟩,⟨none,[.pt 69 60 68]⟩])<|.cond (.t 69) (.n [.mov (some 2) (.k (.bool false))]<|.ret) (.skip))<|.n [.m 71 3,.c 72 (F 188) [.t 71],.m 70 72,.x 73 0 70,.x 74 1 70,.x 75 2 70,.m 6 73,.m 7 74,.m 8 75]<|.seq (.ops false [⟨none,[.f 76 0 1,.l 77 76,.bi 78 .neq 77 0,.m 79 78]⟩,⟨some (79,false),[.m 80 8,.un (some 81) .not (.t 80)]⟩,⟨none,[.pt 82 79 81,.m 2 82]⟩])<|.ret
abbrev bFk(P:Program)(F T:Nat->Nat):Prop:=Fn P (F 185) 83 [(2,none)] (c185 F T)
def c186(F T:Nat->Nat):C:=.n [.box 1 (T 17) (.t 0),.mov (some 2) (.k .nils)]<|.seq (.n [.load (some 5) false 2 true (.t 1),.c 6 (F 185) [.t 5],.un (some 7) .not (.t 6)]<|.cond (.t 7) (.n [.mov (some 2) (.k .nils)]<|.ret) (.skip))<|.seq (.gha (.own 3 (T 17) 2)<|.o [.mov (some 3) (.k .nils)])<|.seq (.n [.mov (some 4) (.i 0)]<|.block 0<|.loop<|.seq (.n [.m 8 4,.f 9 1 1,.l 10 9,.ls 11 10,.b 12 .lss 8 11]<|.cond (.t 12) (.skip) (.exit 0))<|.seq (.block 1<|.n [.f 15 1 1,.l 16 15,.m 17 4,.ix 18 16 17,.bin (some 19) .eql (.t 18) (.k (.int .u8 47))]<|.cond (.t 19) (.p [.m 20 3,.f 21 0 1,.l 22 21,.f 23 1 1,.l 24 23,.m 25 4,.slcS (some 26) (.t 24) none (some (.t 25)),.build (some 27) [(.int .i64 0),(.str [])] [(0,1,(.t 22)),(1,1,(.t 26))],.mkl (some 28) 2 [.t 27],.app 29 (T 17) 2 (.t 20) (.t 28),.m 3 29]) (.skip))<|.o [.m 13 4,.bi 14 .add 13 1,.m 4 14])<|.n [.m 30 3,.m 2 30]<|.ret
abbrev bFu(P:Program)(F T:Nat->Nat):Prop:=Fn P (F 186) 31 [(2,none)] (c186 F T)
def c187(F T:Nat->Nat):C:=.n [.mov (some 2) (.k (.bool false))]<|.seq (.n [.mov (some 3) (.i 0)]<|.block 0<|.loop<|.seq (.n [.m 5 3,.m 6 0,.ls 7 6,.b 8 .lss 5 7]<|.cond (.t 8) (.skip) (.exit 0))<|.seq (.block 1<|.n [.m 11 0,.m 12 3,.ix 13 11 12,.m 4 13]<|.seq (.ops false [⟨none,[.m 14 4,.bin (some 15) .lss (.t 14) (.k (.int .u8 32)),.m 16 15]⟩,⟨some (16,false),[.m 17 4,.bin (some 18) .eql (.t 17) (.k (.int .u8 127))]⟩,⟨none,[.pt 19 16 18,.m 20 19]⟩,⟨some (20,false),[.m 21 4,.c 22 (F 120) [.s [60,62,91,93,123,125,124,35,95],.t 21],.bi 23 .geq 22 0]⟩,⟨none,[.pt 24 20 23,.m 25 24]⟩,⟨some (25,false),[.m 26 4,.bin (some 27) .eql (.t 26) (.k (.int .u8 32)),.m 28 27]⟩,⟨some (28,true),[.m 29 3,.bi 30 .gtr 29 0]⟩,⟨some (25,false),[.pf 31 28 30,.m 32 31]⟩,⟨some (32,true),[.m 33 0,.m 34 3,.bi 35 .sub 34 1,.ix 36 33 35,.bin (some 37) .eql (.t 36) (.k (.int .u8 32))]⟩,⟨some (25,false),[.pf 38 32 37]⟩,⟨none,[.pt 39 25 38]⟩])<|.cond (.t 39) (.n [.mov (some 2) (.k (.bool false))]<|.ret) (.skip))<|.o [.m 9 3,.bi 10 .add 9 1,.m 3 10])<|.n [.mov (some 2) (.k (.bool true))]<|.ret
abbrev aYs(P:Program)(F T:Nat->Nat):Prop:=Fn P (F 187) 40 [(2,none)] (c187 F T)
def c188(F T:Nat->Nat):C:=.n [.mov (some 2) (.i 0),.mov (some 3) (.s []),.mov (some 4) (.k (.bool false))]<|.n [.m 12 0,.c 13 (F 172) [.t 12,.s [58]],.m 11 13,.x 14 0 11,.x 15 1 11,.x 16 2 11,.m 5 14,.m 6 15,.m 7 16]<|.seq (.n [.m 17 7,.un (some 18) .not (.t 17)]<|.cond (.t 18) (.n [.mov (some 2) (.i 0),.mov (some 3) (.s []),.mov (some 4) (.k (.bool false))]<|.ret) (.skip))<|.n [.m 19 5,.c 20 (F 173) [.t 19,.s [32]],.c 21 (F 189) [.t 20],.m 8 21]<|.seq (.n [.c 22 (F 190) [],.mov (some 23) (.i 0)]<|.block 0<|.loop<|.n [.bi 24 .lss 23 6]<|.seq (.cond (.t 24) (.skip) (.exit 0))<|.seq (.block 1<|.n [.m 25 23,.idxA (some 26) 6 1 false (.t 22) (.t 23),.m 9 25,.m 10 26]<|.seq (.ops false [⟨none,[.m 27 9,.bi 28 .neq 27 0,.m 29 28]⟩,⟨some (29,true),[.m 30 8,.m 31 10,.c 32 (F 189) [.t 31],.b 33 .eql 30 32]⟩,⟨none,[.pf 34 29 33]⟩])<|.cond (.t 34) (.n [.m 35 9,.m 36 6,.m 2 35,.m 3 36,.mov (some 4) (.k (.bool true))]<|.ret) (.skip))<|.o [.bi 37 .add 23 1,.m 23 37])<|.n [.mov (some 2) (.i 0),.mov (some 3) (.s []),.mov (some 4) (.k (.bool false))]<|.ret
abbrev bBr(P:Program)(F T:Nat->Nat):Prop:=Fn P (F 188) 38 [(2,none),(3,none),(4,none)] (c188 F T)
def c189(F T:Nat->Nat):C:=.n [.mov (some 2) (.s [])]<|.n [.m 6 0,.s2b 7 (T 3) (.t 6),.m 3 7]<|.seq (.n [.m 8 3,.ll 9 8,.mov (some 10) (.i 0)]<|.block 0<|.loop<|.n [.b 11 .lss 10 9]<|.seq (.cond (.t 11) (.skip) (.exit 0))<|.seq (.block 1<|.n [.m 12 10,.ia 13 1 8 10,.l 14 13,.m 4 12,.m 5 14]<|.seq (.ops false [⟨none,[.m 15 5,.bin (some 16) .geq (.t 15) (.k (.int .u8 65)),.m 17 16]⟩,⟨some (17,true),[.m 18 5,.bin (some 19) .leq (.t 18) (.k (.int .u8 90))]⟩,⟨none,[.pf 20 17 19]⟩])<|.cond (.t 20) (.o [.m 21 3,.m 22 4,.m 23 5,.bin (some 24) .add (.t 23) (.k (.int .u8 32)),.ia 25 1 21 22,.store 1 (.t 25) (.t 24)]) (.skip))<|.o [.bi 26 .add 10 1,.m 10 26])<|.n [.m 27 3,.b2s (some 28) (.t 27),.m 2 28]<|.ret
abbrev aU7(P:Program)(F T:Nat->Nat):Prop:=Fn P (F 189) 29 [(2,none)] (c189 F T)
def c190(F T:Nat->Nat):C:=.n [.alloc 0 (T 25) [(.str []),(.str []),(.str []),(.str []),(.str []),(.str [])]]<|.n [.build (some 1) [(.str []),(.str []),(.str []),(.str []),(.str []),(.str [])] [(0,1,(.s [])),(1,1,(.s [84,97,108,107])),(2,1,(.s [85,115,101,114])),(3,1,(.s [84,101,109,112,108,97,116,101])),(4,1,(.s [67,97,116,101,103,111,114,121])),(5,1,(.s [80,114,111,106,101,99,116]))],.store 6 (.t 0) (.t 1)]<|.ret
abbrev aUo(P:Program)(F T:Nat->Nat):Prop:=Fn P (F 190) 2 [(0,(some (6,true)))] (c190 F T)
def c191(F T:Nat->Nat):C:=.n [.mov (some 2) (.k (.bool false))]<|.seq (.seq (.ops false [⟨none,[.m 5 0,.ls 6 5,.bi 7 .lss 6 1,.m 8 7]⟩,⟨some (8,false),[.m 9 0,.ls 10 9,.bi 11 .gtr 10 30]⟩,⟨none,[.pt 12 8 11,.m 13 12]⟩,⟨some (13,false),[.m 14 0,.idx (some 15) (.t 14) (.i 0),.bin (some 16) .lss (.t 15) (.k (.int .u8 97))]⟩,⟨none,[.pt 17 13 16,.m 18 17]⟩,⟨some (18,false),[.m 19 0,.idx (some 20) (.t 19) (.i 0),.bin (some 21) .gtr (.t 20) (.k (.int .u8 122))]⟩,⟨none,[.pt 22 18 21]⟩])<|.cond (.t 22) (.n [.mov (some 2) (.k (.bool false))]<|.ret) (.skip))<|.seq (.n [.m 23 0,.ls 24 23,.mov (some 25) (.i 0)]<|.block 0<|.loop<|.n [.b 26 .lss 25 24]<|.seq (.cond (.t 26) (.skip) (.exit 0))<|.seq (.block 1<|.n [.m 27 25,.m 3 27]<|.seqc (.o [.m 28 0,.m 29 3,.ix 30 28 29,.m 4 30])<|.seq (.ops false [⟨none,[.m 31 4,.bin (some 32) .lss (.t 31) (.k (.int .u8 97)),.m 33 32]⟩,⟨some (33,false),[.m 34 4,.bin (some 35) .gtr (.t 34) (.k (.int .u8 122))]⟩,⟨none,[.pt 36 33 35,.m 37 36]⟩,⟨some (37,true),[.m 38 4,.bin (some 39) .lss (.t 38) (.k (.int .u8 48)),.m 40 39]⟩,⟨some (40,false),[.m 41 4,.bin (some 42) .gtr (.t 41) (.k (.int .u8 57))]⟩,⟨some (37,true),[.pt 43 40 42]⟩,⟨none,[.pf 44 37 43,.m 45 44]⟩,⟨some (45,true),[.m 46 4,.bin (some 47) .neq (.t 46) (.k (.int .u8 45))]⟩,⟨none,[.pf 48 45 47,.m 49 48]⟩,⟨some (49,true),[.m 50 4,.bin (some 51) .neq (.t 50) (.k (.int .u8 95))]⟩,⟨none,[.pf 52 49 51]⟩])<|.cond (.t 52) (.n [.mov (some 2) (.k (.bool false))]<|.ret) (.skip))<|.o [.bi 53 .add 25 1,.m 25 53])<|.n [.mov (some 2) (.k (.bool true))]<|.ret
abbrev aZw(P:Program)(F T:Nat->Nat):Prop:=Fn P (F 191) 54 [(2,none)] (c191 F T)
def c192(F T:Nat->Nat):C:=.n [.box 4 (T 16) (.t 0),.box 7 (T 17) (.t 3),.mov (some 8) (.k (.bool false))]<|.seq (.seq (.ops false [⟨none,[.load (some 15) false 2 true (.t 7),.c 16 (F 199) [.t 15],.un (some 17) .not (.t 16),.m 18 17]⟩,⟨some (18,false),[.m 19 2,.bi 20 .lss 19 1]⟩,⟨none,[.pt 21 18 20,.m 22 21]⟩,⟨some (22,false),[.m 23 2,.bi 24 .gtr 23 5]⟩,⟨none,[.pt 25 22 24]⟩])<|.cond (.t 25) (.n [.mov (some 8) (.k (.bool false))]<|.ret) (.skip))<|.n [.load (some 26) false 2 true (.t 7),.c 27 (F 194) [.t 26],.m 9 27]<|.seq (.n [.mov (some 10) (.i 0)]<|.block 0<|.loop<|.seq (.n [.m 28 10,.m 29 9,.ll 30 29,.b 31 .lss 28 30]<|.cond (.t 31) (.skip) (.exit 0))<|.seq (.block 1<|.n [.mov (some 11) (.k (.bool false)),.mov (some 12) (.k (.bool true))]<|.seq (.n [.mov (some 13) (.i 0)]<|.block 2<|.loop<|.seq (.n [.m 34 13,.f 35 1 4,.l 36 35,.ll 37 36,.b 38 .lss 34 37]<|.cond (.t 38) (.skip) (.exit 2))<|.seq (.block 3<|.n [.f 41 1 4,.l 42 41,.m 43 13,.ia 44 6 42 43,.load (some 45) false 6 true (.t 44),.alloc 14 (T 19) [(.bool false),(.int .i64 0),(.str []),(.int .i64 0),(.int .i64 0),(.str [])],.store 6 (.t 14) (.t 45)]<|.seq (.ops true [⟨none,[.f 46 1 14,.l 47 46,.m 48 2,.b 49 .eql 47 48,.m 50 49]⟩,⟨some (50,true),[.m 51 1,.f 52 2 14,.l 53 52,.c 54 (F 193) [.t 51,.t 53]]⟩,⟨none,[.pf 55 50 54,.m 56 55]⟩,⟨some (56,true),[.f 57 3 14,.load (some 58) false 3 true (.t 57),.m 59 9,.m 60 10,.ia 61 3 59 60,.load (some 62) false 3 true (.t 61),.c 63 (F 195) [.t 58,.t 62]]⟩,⟨none,[.pf 64 56 63]⟩])<|.cond (.t 64) (.ops true [⟨none,[.m 65 12,.m 66 65]⟩,⟨some (66,true),[.f 67 0 14,.l 68 67]⟩,⟨none,[.pf 69 66 68,.mov (some 11) (.k (.bool true)),.m 12 69]⟩]) (.skip))<|.o [.m 39 13,.bi 40 .add 39 1,.m 13 40])<|.n [.m 70 11]<|.cond (.t 70) (.n [.m 71 12,.m 8 71]<|.ret) (.skip))<|.o [.m 32 10,.bi 33 .add 32 1,.m 10 33])<|.n [.mov (some 8) (.k (.bool false))]<|.ret
abbrev bMj(P:Program)(F T:Nat->Nat):Prop:=Fn P (F 192) 72 [(8,none)] (c192 F T)
def c193(F T:Nat->Nat):C:=.n [.mov (some 4) (.k (.bool false))]<|.seq (.n [.mov (some 5) (.i 0)]<|.block 0<|.loop<|.seq (.n [.m 6 5,.m 7 0,.ll 8 7,.b 9 .lss 6 8]<|.cond (.t 9) (.skip) (.exit 0))<|.seq (.block 1<|.n [.m 12 0,.m 13 5,.ia 14 1 12 13,.l 15 14,.m 16 1,.b 17 .eql 15 16]<|.cond (.t 17) (.n [.mov (some 4) (.k (.bool true))]<|.ret) (.skip))<|.o [.m 10 5,.bi 11 .add 10 1,.m 5 11])<|.n [.mov (some 4) (.k (.bool false))]<|.ret
abbrev aUr(P:Program)(F T:Nat->Nat):Prop:=Fn P (F 193) 18 [(4,none)] (c193 F T)
def c195(F T:Nat->Nat):C:=.n [.box 2 (T 18) (.t 0),.box 3 (T 18) (.t 1),.mov (some 4) (.k (.bool false))]<|.seq (.n [.f 5 0 2,.l 6 5,.f 7 0 3,.l 8 7,.b 9 .neq 6 8]<|.cond (.t 9) (.n [.mov (some 4) (.k (.bool false))]<|.ret) (.skip))<|.seq (.n [.f 10 0 2,.l 11 10]<|.block 0<|.n [.bi 13 .eql 11 3,.m 12 13]<|.cond (.t 12) (.n [.f 14 1 2,.load (some 15) false 2 true (.t 14),.f 16 1 3,.load (some 17) false 2 true (.t 16),.eqA (some 18) false [0,1] (.t 15) (.t 17),.m 4 18]<|.ret) (.n [.bi 20 .eql 11 2,.m 19 20]<|.cond (.t 19) (.n [.f 21 1 2,.f 22 0 21,.l 23 22,.f 24 1 3,.f 25 0 24,.l 26 25,.b 27 .eql 23 26,.m 4 27]<|.ret) (.skip)))<|.n [.mov (some 4) (.k (.bool true))]<|.ret
abbrev bIu(P:Program)(F T:Nat->Nat):Prop:=Fn P (F 195) 28 [(4,none)] (c195 F T)
def c199(F T:Nat->Nat):C:=.n [.box 1 (T 17) (.t 0),.mov (some 2) (.k (.bool false))]<|.n [.f 9 1 1,.l 10 9,.m 3 10]<|.seq (.seq (.ops false [⟨none,[.f 11 0 1,.l 12 11,.bi 13 .lss 12 0,.m 14 13]⟩,⟨some (14,false),[.f 15 0 1,.l 16 15,.bi 17 .geq 16 6]⟩,⟨none,[.pt 18 14 17,.m 19 18]⟩,⟨some (19,false),[.m 20 3,.ls 21 20,.bi 22 .lss 21 1]⟩,⟨none,[.pt 23 19 22,.m 24 23]⟩,⟨some (24,false),[.m 25 3,.ls 26 25,.bi 27 .gtr 26 100]⟩,⟨none,[.pt 28 24 27]⟩])<|.cond (.t 28) (.n [.mov (some 2) (.k (.bool false))]<|.ret) (.skip))<|.seq (.n [.mov (some 4) (.i 0)]<|.block 0<|.loop<|.seq (.n [.m 29 4,.m 30 3,.ls 31 30,.b 32 .lss 29 31]<|.cond (.t 32) (.skip) (.exit 0))<|.seq (.block 1<|.seq (.ops false [⟨none,[.m 35 3,.m 36 4,.ix 37 35 36,.bin (some 38) .lss (.t 37) (.k (.int .u8 32)),.m 39 38]⟩,⟨some (39,false),[.m 40 3,.m 41 4,.ix 42 40 41,.bin (some 43) .eql (.t 42) (.k (.int .u8 127))]⟩,⟨none,[.pt 44 39 43,.m 45 44]⟩,⟨some (45,false),[.m 46 3,.m 47 4,.m 48 4,.bi 49 .add 48 1,.slcS (some 50) (.t 46) (some (.t 47)) (some (.t 49)),.c 51 (F 102) [.s [60,62,91,93,123,125,124,35,95],.t 50,.i 0],.bi 52 .geq 51 0]⟩,⟨none,[.pt 53 45 52,.m 54 53]⟩,⟨some (54,false),[.m 55 3,.m 56 4,.ix 57 55 56,.bin (some 58) .eql (.t 57) (.k (.int .u8 32)),.m 59 58]⟩,⟨some (59,true),[.m 60 4,.bi 61 .gtr 60 0]⟩,⟨some (54,false),[.pf 62 59 61,.m 63 62]⟩,⟨some (63,true),[.m 64 3,.m 65 4,.bi 66 .sub 65 1,.ix 67 64 66,.bin (some 68) .eql (.t 67) (.k (.int .u8 32))]⟩,⟨some (54,false),[.pf 69 63 68]⟩,⟨none,[.pt 70 54 69]⟩])<|.cond (.t 70) (.n [.mov (some 2) (.k (.bool false))]<|.ret) (.skip))<|.o [.m 33 4,.bi 34 .add 33 1,.m 4 34])<|.n [.m 71 3,.c 72 (F 201) [.t 71],.m 5 72]<|.seq (.n [.mov (some 6) (.i 0)]<|.block 2<|.loop<|.seq (.n [.m 73 6,.m 74 5,.ll 75 74,.b 76 .lss 73 75]<|.cond (.t 76) (.skip) (.exit 2))<|.seq (.block 3<|.seq (.ops true [⟨none,[.m 79 5,.m 80 6,.ia 81 1 79 80,.l 82 81,.bin (some 83) .eql (.t 82) (.s []),.m 84 83]⟩,⟨some (84,false),[.m 85 5,.m 86 6,.ia 87 1 85 86,.l 88 87,.idx (some 89) (.t 88) (.i 0),.bin (some 90) .eql (.t 89) (.k (.int .u8 32))]⟩,⟨none,[.pt 91 84 90,.m 92 91]⟩,⟨some (92,false),[.m 93 5,.m 94 6,.ia 95 1 93 94,.l 96 95,.m 97 5,.m 98 6,.ia 99 1 97 98,.l 100 99,.ls 101 100,.bi 102 .sub 101 1,.ix 103 96 102,.bin (some 104) .eql (.t 103) (.k (.int .u8 32))]⟩,⟨none,[.pt 105 92 104]⟩])<|.cond (.t 105) (.n [.mov (some 2) (.k (.bool false))]<|.ret) (.skip))<|.o [.m 77 6,.bi 78 .add 77 1,.m 6 78])<|.seq (.seq (.ops false [⟨none,[.m 106 3,.idx (some 107) (.t 106) (.i 0),.bin (some 108) .eql (.t 107) (.k (.int .u8 58)),.m 109 108]⟩,⟨some (109,false),[.m 110 3,.idx (some 111) (.t 110) (.i 0),.bin (some 112) .geq (.t 111) (.k (.int .u8 97)),.m 113 112]⟩,⟨some (113,true),[.m 114 3,.idx (some 115) (.t 114) (.i 0),.bin (some 116) .leq (.t 115) (.k (.int .u8 122))]⟩,⟨some (109,false),[.pf 117 113 116]⟩,⟨none,[.pt 118 109 117]⟩])<|.cond (.t 118) (.n [.mov (some 2) (.k (.bool false))]<|.ret) (.skip))<|.n [.m 120 3,.c 121 (F 202) [.t 120],.m 119 121,.x 122 0 119,.x 123 1 119,.m 7 122,.m 8 123]<|.seq (.ops false [⟨none,[.f 124 0 1,.l 125 124,.bi 126 .neq 125 0,.m 127 126]⟩,⟨some (127,false),[.m 128 7,.bi 129 .eql 128 0]⟩,⟨none,[.pt 130 127 129,.m 2 130]⟩])<|.ret
abbrev bCh(P:Program)(F T:Nat->Nat):Prop:=Fn P (F 199) 131 [(2,none)] (c199 F T)
def c200(F T:Nat->Nat):C:=.n [.box 1 (T 17) (.t 0),.mov (some 2) (.k .nils)]<|.seq (.n [.load (some 5) false 2 true (.t 1),.c 6 (F 199) [.t 5],.un (some 7) .not (.t 6)]<|.cond (.t 7) (.n [.mov (some 2) (.k .nils)]<|.ret) (.skip))<|.seq (.gha (.own 3 (T 17) 2)<|.o [.mov (some 3) (.k .nils)])<|.seq (.n [.mov (some 4) (.i 0)]<|.block 0<|.loop<|.seq (.n [.m 8 4,.f 9 1 1,.l 10 9,.ls 11 10,.b 12 .lss 8 11]<|.cond (.t 12) (.skip) (.exit 0))<|.seq (.block 1<|.n [.f 15 1 1,.l 16 15,.m 17 4,.ix 18 16 17,.bin (some 19) .eql (.t 18) (.k (.int .u8 47))]<|.cond (.t 19) (.p [.m 20 3,.f 21 0 1,.l 22 21,.f 23 1 1,.l 24 23,.m 25 4,.slcS (some 26) (.t 24) none (some (.t 25)),.build (some 27) [(.int .i64 0),(.str [])] [(0,1,(.t 22)),(1,1,(.t 26))],.mkl (some 28) 2 [.t 27],.app 29 (T 17) 2 (.t 20) (.t 28),.m 3 29]) (.skip))<|.o [.m 13 4,.bi 14 .add 13 1,.m 4 14])<|.n [.m 30 3,.m 2 30]<|.ret
abbrev bEv(P:Program)(F T:Nat->Nat):Prop:=Fn P (F 200) 31 [(2,none)] (c200 F T)
def c202(F T:Nat->Nat):C:=.n [.mov (some 2) (.i 0),.mov (some 3) (.i 0)]<|.n [.m 7 0,.c 8 (F 102) [.t 7,.s [58],.i 0],.m 4 8]<|.seq (.n [.m 9 4,.bi 10 .lss 9 0]<|.cond (.t 10) (.n [.mov (some 2) (.i 0),.mov (some 3) (.i 0)]<|.ret) (.skip))<|.n [.m 11 0,.m 12 4,.slcS (some 13) (.t 11) none (some (.t 12)),.m 5 13]<|.seqc (.seq (.ops false [⟨none,[.m 14 5,.ls 15 14,.bi 16 .gtr 15 0,.m 17 16]⟩,⟨some (17,true),[.m 18 5,.m 19 5,.ls 20 19,.bi 21 .sub 20 1,.ix 22 18 21,.bin (some 23) .eql (.t 22) (.k (.int .u8 32))]⟩,⟨none,[.pf 24 17 23]⟩])<|.cond (.t 24) (.o [.m 25 5,.m 26 5,.ls 27 26,.bi 28 .sub 27 1,.slcS (some 29) (.t 25) none (some (.t 28)),.m 5 29]) (.skip))<|.seq (.n [.mov (some 6) (.i 1)]<|.block 0<|.loop<|.seq (.n [.m 30 6,.bi 31 .lss 30 6]<|.cond (.t 31) (.skip) (.exit 0))<|.seq (.block 1<|.n [.m 34 5,.m 35 6,.c 36 (F 205) [.t 35],.c 37 (F 203) [.t 34,.t 36]]<|.cond (.t 37) (.n [.m 38 6,.m 39 4,.m 2 38,.m 3 39]<|.ret) (.skip))<|.o [.m 32 6,.bi 33 .add 32 1,.m 6 33])<|.n [.mov (some 2) (.i 0),.mov (some 3) (.i 0)]<|.ret
abbrev bCc(P:Program)(F T:Nat->Nat):Prop:=Fn P (F 202) 40 [(2,none),(3,none)] (c202 F T)
def c203(F T:Nat->Nat):C:=.n [.mov (some 4) (.k (.bool false))]<|.seq (.n [.m 6 0,.ls 7 6,.m 8 1,.ls 9 8,.b 10 .neq 7 9]<|.cond (.t 10) (.n [.mov (some 4) (.k (.bool false))]<|.ret) (.skip))<|.seq (.n [.mov (some 5) (.i 0)]<|.block 0<|.loop<|.seq (.n [.m 11 5,.m 12 0,.ls 13 12,.b 14 .lss 11 13]<|.cond (.t 14) (.skip) (.exit 0))<|.seq (.block 1<|.seq (.p [.m 17 0,.m 18 5,.ix 19 17 18,.c 20 (F 204) [.t 19],.m 21 1,.m 22 5,.ix 23 21 22,.c 24 (F 204) [.t 23],.b 25 .neq 20 24])<|.cond (.t 25) (.n [.mov (some 4) (.k (.bool false))]<|.ret) (.skip))<|.o [.m 15 5,.bi 16 .add 15 1,.m 5 16])<|.n [.mov (some 4) (.k (.bool true))]<|.ret
abbrev aVj(P:Program)(F T:Nat->Nat):Prop:=Fn P (F 203) 26 [(4,none)] (c203 F T)
def c204(F T:Nat->Nat):C:=.n [.mov (some 2) (.k (.int .u8 0))]<|.seq (.seq (.ops false [⟨none,[.m 3 0,.bin (some 4) .geq (.t 3) (.k (.int .u8 65)),.m 5 4]⟩,⟨some (5,true),[.m 6 0,.bin (some 7) .leq (.t 6) (.k (.int .u8 90))]⟩,⟨none,[.pf 8 5 7]⟩])<|.cond (.t 8) (.n [.m 9 0,.bin (some 10) .add (.t 9) (.k (.int .u8 32)),.m 2 10]<|.ret) (.skip))<|.n [.m 11 0,.m 2 11]<|.ret
abbrev aQ3(P:Program)(F T:Nat->Nat):Prop:=Fn P (F 204) 12 [(2,none)] (c204 F T)
def c205(F T:Nat->Nat):C:=.n [.mov (some 2) (.s [])]<|.n [.mkl (some 4) 1 [.s [],.s [84,97,108,107],.s [85,115,101,114],.s [84,101,109,112,108,97,116,101],.s [67,97,116,101,103,111,114,121],.s [80,114,111,106,101,99,116]],.m 3 4]<|.seq (.seq (.ops false [⟨none,[.m 5 0,.bi 6 .lss 5 0,.m 7 6]⟩,⟨some (7,false),[.m 8 0,.m 9 3,.ll 10 9,.b 11 .geq 8 10]⟩,⟨none,[.pt 12 7 11]⟩])<|.cond (.t 12) (.n [.mov (some 2) (.s [])]<|.ret) (.skip))<|.n [.m 13 3,.m 14 0,.ia 15 1 13 14,.l 16 15,.m 2 16]<|.ret
abbrev aRe(P:Program)(F T:Nat->Nat):Prop:=Fn P (F 205) 17 [(2,none)] (c205 F T)
def c220(F T:Nat->Nat):C:=.n [.mov (some 4) (.k (.bool false))]<|.n [.m 5 0,.m 6 1,.c 7 (F 222) [.t 5,.t 6],.bi 8 .geq 7 0,.m 4 8]<|.ret
abbrev aW0(P:Program)(F T:Nat->Nat):Prop:=Fn P (F 220) 9 [(4,none)] (c220 F T)
def c222(F T:Nat->Nat):C:=.n [.mov (some 4) (.i 0)]<|.seq (.n [.m 6 0,.ll 7 6,.mov (some 8) (.i 0)]<|.block 0<|.loop<|.n [.b 9 .lss 8 7]<|.seq (.cond (.t 9) (.skip) (.exit 0))<|.seq (.block 1<|.n [.m 10 8,.m 5 10]<|.n [.m 11 1,.m 12 0,.m 13 5,.ia 14 1 12 13,.l 15 14,.b 16 .eql 11 15]<|.cond (.t 16) (.n [.m 17 5,.m 4 17]<|.ret) (.skip))<|.o [.bi 18 .add 8 1,.m 8 18])<|.n [.mov (some 4) (.k (.int .i64 (-1)))]<|.ret
abbrev aOw(P:Program)(F T:Nat->Nat):Prop:=Fn P (F 222) 19 [(4,none)] (c222 F T)
def c229(F T:Nat->Nat):C:=.n [.m 4 0,.ll 5 4,.bi 6 .sub 5 1,.mov (some 2) (.i 0),.m 3 6]<|.block 0<|.loop<|.seq (.n [.m 7 2,.m 8 3,.b 9 .lss 7 8]<|.cond (.t 9) (.skip) (.exit 0))<|.seq (.block 1<|.p [.m 14 0,.m 15 2,.m 16 0,.m 17 3,.m 18 0,.m 19 3,.ia 20 2 18 19,.load (some 21) false 2 true (.t 20),.m 22 0,.m 23 2,.ia 24 2 22 23,.load (some 25) false 2 true (.t 24),.ia 26 2 14 15,.store 2 (.t 26) (.t 21),.ia 27 2 16 17,.store 2 (.t 27) (.t 25)])<|.o [.m 10 2,.bi 11 .add 10 1,.m 12 3,.bi 13 .sub 12 1,.m 2 11,.m 3 13]
abbrev bE0(P:Program)(F T:Nat->Nat):Prop:=Fn P (F 229) 28 [] (c229 F T)
def c180(F T:Nat->Nat):C:=.n [.box 2 (T 16) (.t 0),.box 3 (T 21) (.t 1),.mov (some 4) (.k .nils)]<|.n [.mkv 10 (T 21) 1 [.s [97,108,108]],.alloc 5 (T 26) [.nils],.store 1 (.t 5) (.t 10)]<|.n [.l 11 3,.c 12 (F 191) [.t 11],.alloc 6 (T 15) [(.bool false)],.store 1 (.t 6) (.t 12)]<|.seqc (.n [.l 13 6]<|.cond (.t 13) (.o [.l 14 5,.mkl (some 15) 1 [.s [117,115,101,114,115]],.app 16 (T 21) 1 (.t 14) (.t 15),.store 1 (.t 5) (.t 16)]) (.skip))<|.seq (.n [.mov (some 7) (.k (.bool true))]<|.block 0<|.loop<|.seq (.n [.m 17 7]<|.cond (.t 17) (.skip) (.exit 0))<|.block 1<|.n [.mov (some 7) (.k (.bool false))]<|.n [.f 18 0 2,.l 19 18,.ll 20 19,.mov (some 21) (.i 0)]<|.block 2<|.loop<|.n [.b 22 .lss 21 20]<|.seq (.cond (.t 22) (.skip) (.exit 2))<|.seq (.block 3<|.n [.ia 23 2 19 21,.load (some 24) false 2 true (.t 23),.alloc 9 (T 22) [(.str []),.nils],.store 2 (.t 9) (.t 24)]<|.seq (.n [.l 25 5,.f 26 0 9,.l 27 26,.call (some 28) false (F 220) [.t 25,.t 27]]<|.cond (.t 28) (.exit 3) (.skip))<|.n [.f 29 1 9,.l 30 29,.clos (some 31) (F 225) [.t 6,.t 3,.t 5],.e 32 42 (F 223) [.t 30,.t 31]]<|.cond (.t 32) (.n [.l 33 5,.f 34 0 9,.l 35 34,.mkl (some 36) 1 [.t 35],.app 37 (T 21) 1 (.t 33) (.t 36),.store 1 (.t 5) (.t 37)]<|.o [.mov (some 7) (.k (.bool true))]) (.skip))<|.o [.bi 38 .add 21 1,.m 21 38])<|.n [.l 39 5,.e 40 42 (F 226) [.t 39]]<|.n [.l 41 5,.m 4 41]<|.ret
abbrev bK7(P:Program)(F T:Nat->Nat):Prop:=Fn P (F 180) 42 [(4,none)] (c180 F T)
def c181(F T:Nat->Nat):C:=.n [.box 1 (T 17) (.t 0),.mov (some 2) (.k .nils)]<|.n [.load (some 7) false 2 true (.t 1),.build (some 8) [(.int .i64 0),(.int .i64 0),(.str [])] [(0,1,(.i 3)),(1,2,(.t 7))],.mkv 9 (T 18) 3 [.t 8],.m 3 9]<|.n [.load (some 10) false 2 true (.t 1),.e 11 34 (F 186) [.t 10],.m 4 11]<|.n [.m 12 4,.e 13 34 (F 229) [.t 12]]<|.seq (.n [.m 14 4,.ll 15 14,.mov (some 16) (.i 0)]<|.block 0<|.loop<|.n [.b 17 .lss 16 15]<|.seq (.cond (.t 17) (.skip) (.exit 0))<|.seq (.block 1<|.n [.ia 18 2 14 16,.load (some 19) false 2 true (.t 18),.alloc 6 (T 17) [(.int .i64 0),(.str [])],.store 2 (.t 6) (.t 19)]<|.o [.m 20 3,.load (some 21) false 2 true (.t 6),.build (some 22) [(.int .i64 0),(.int .i64 0),(.str [])] [(0,1,(.i 3)),(1,2,(.t 21))],.mkl (some 23) 3 [.t 22],.app 24 (T 18) 3 (.t 20) (.t 23),.m 3 24])<|.o [.bi 25 .add 16 1,.m 16 25])<|.n [.m 26 3,.f 27 0 1,.l 28 27,.build (some 29) [(.int .i64 0),(.str [])] [(0,1,(.t 28))],.build (some 30) [(.int .i64 0),(.int .i64 0),(.str [])] [(0,1,(.i 2)),(1,2,(.t 29))],.build (some 31) [(.int .i64 0),(.int .i64 0),(.str [])] [(0,1,(.i 1))],.mkl (some 32) 3 [.t 30,.t 31],.app 33 (T 18) 3 (.t 26) (.t 32),.m 2 33]<|.ret
abbrev bKo(P:Program)(F T:Nat->Nat):Prop:=Fn P (F 181) 34 [(2,none)] (c181 F T)
def c194(F T:Nat->Nat):C:=.n [.box 1 (T 17) (.t 0),.mov (some 2) (.k .nils)]<|.n [.load (some 6) false 2 true (.t 1),.build (some 7) [(.int .i64 0),(.int .i64 0),(.str [])] [(0,1,(.i 3)),(1,2,(.t 6))],.mkv 8 (T 18) 3 [.t 7],.m 3 8]<|.n [.load (some 9) false 2 true (.t 1),.c 10 (F 200) [.t 9],.m 4 10]<|.seq (.n [.m 11 4,.ll 12 11,.bi 13 .sub 12 1,.m 5 13]<|.block 0<|.loop<|.seq (.n [.m 14 5,.bi 15 .geq 14 0]<|.cond (.t 15) (.skip) (.exit 0))<|.seq (.block 1<|.o [.m 18 3,.m 19 4,.m 20 5,.ia 21 2 19 20,.load (some 22) false 2 true (.t 21),.build (some 23) [(.int .i64 0),(.int .i64 0),(.str [])] [(0,1,(.i 3)),(1,2,(.t 22))],.mkl (some 24) 3 [.t 23],.app 25 (T 18) 3 (.t 18) (.t 24),.m 3 25])<|.o [.m 16 5,.bi 17 .sub 16 1,.m 5 17])<|.n [.m 26 3,.f 27 0 1,.l 28 27,.build (some 29) [(.int .i64 0),(.str [])] [(0,1,(.t 28))],.build (some 30) [(.int .i64 0),(.int .i64 0),(.str [])] [(0,1,(.i 2)),(1,2,(.t 29))],.build (some 31) [(.int .i64 0),(.int .i64 0),(.str [])] [(0,1,(.i 1))],.mkl (some 32) 3 [.t 30,.t 31],.app 33 (T 18) 3 (.t 26) (.t 32),.m 2 33]<|.ret
abbrev bHd(P:Program)(F T:Nat->Nat):Prop:=Fn P (F 194) 34 [(2,none)] (c194 F T)
def c201(F T:Nat->Nat):C:=.n [.mov (some 2) (.k .nils)]<|.n [.mkv 5 (T 21) 1 [.s []],.m 3 5]<|.seq (.n [.mov (some 4) (.i 0)]<|.block 0<|.loop<|.seq (.n [.m 6 4,.m 7 0,.ls 8 7,.b 9 .lss 6 8]<|.cond (.t 9) (.skip) (.exit 0))<|.seq (.block 1<|.n [.m 12 0,.m 13 4,.ix 14 12 13,.bin (some 15) .eql (.t 14) (.k (.int .u8 47))]<|.cond (.t 15) (.o [.m 16 3,.mkl (some 17) 1 [.s []],.app 18 (T 21) 1 (.t 16) (.t 17),.m 3 18]) (.p [.m 19 3,.m 20 3,.ll 21 20,.bi 22 .sub 21 1,.m 23 3,.m 24 3,.ll 25 24,.bi 26 .sub 25 1,.ia 27 1 23 26,.l 28 27,.m 29 0,.m 30 4,.m 31 4,.bi 32 .add 31 1,.slcS (some 33) (.t 29) (some (.t 30)) (some (.t 32)),.b 34 .add 28 33,.ia 35 1 19 22,.store 1 (.t 35) (.t 34)]))<|.o [.m 10 4,.bi 11 .add 10 1,.m 4 11])<|.n [.m 36 3,.m 2 36]<|.ret
abbrev bAt(P:Program)(F T:Nat->Nat):Prop:=Fn P (F 201) 37 [(2,none)] (c201 F T)
end Go.Ab
