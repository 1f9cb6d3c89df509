import Derived.Test.YtikmbicdjpkipaaGreatDoorAbE4
import Derived.Lib.IndexMore
import Derived.Lib.SplitLaws
import Derived.Lib.CountLaws
import Derived.Test.YtikmbicdjpkipaaGreatDoorAbZ1
import Derived.Lib.Split
import Derived.Lib.IndexBytes
import Derived.Test.YtikmbicdjpkipaaGreatDoorAbP1
import Derived.Deep.Draws
open List renaming cons_append->yD,findIdx?_cons->yw,drop_eq_getElem_cons->zT,isPrefixOf->yy
open Nat renaming add_comm->wZ,le_refl->zx
open ByteArray renaming size->zA
set_option linter.unusedSimpArgs false
set_option linter.unusedVariables false
namespace Go.Ab
def aAi:List UInt8->List (List UInt8)
 | []=>[[]]
 | x::r=>if x=47 then[]::aAi r else(x::(aAi r).headD [])::(aAi r).tail
theorem aUj:∀s:List UInt8,aAi s≠[]
 | []=>by simp[aAi]
 | x::r=>by simp only[aAi];grind
theorem aEu(s:List UInt8):∃p q,aAi s=p::q:=by
 cases h:aAi s with
 | nil=>exact absurd h (aUj s)
 | cons p q=>simp
theorem aI0:∀{s:List UInt8},(∀b,b∈s->b≠47)->aAi s=[s]
 | [],_=>rfl
 | x::r,h=>by have ih:=aI0 (s:=r) (λb hb=>h b (by grind));have hx:=h x (by simp);simp[aAi,hx,ih]
theorem aJ0:∀{u v:List UInt8},(∀b,b∈u->b≠47)->aAi (u++47::v)=u::aAi v
 | [],v,_=>by rfl
 | x::r,v,h=>by have ih:=aJ0 (u:=r) (v:=v) (λb hb=>h b (by grind));have hx:=h x (by simp);simp[aAi,hx,ih]
theorem aNa:∀t:List UInt8,aAi (t++[47])=aAi t++[[]]
 | []=>by rfl
 | x::r=>by have ih:=aNa r;obtain⟨p,q,hp⟩:=aEu r;simp only[yD,aAi,ih];grind
theorem aJy{c:UInt8}(hc:c≠47):∀t:List UInt8,∃a b,aAi t=a++[b]∧aAi (t++[c])=a++[b++[c]]
 | []=>⟨[],[],by rfl,by simp[aAi,hc]⟩
 | x::r=>by
   obtain⟨a,b,h1,h2⟩:=aJy hc r;simp only[yD,aAi,h1,h2];by_cases hx:x=47
   .grind
   .simp only[hx,if_false];cases a with
    | nil=>exact⟨[],x::b,by simp,by simp⟩
    | cons y a=>grind
def lowB(b:UInt8):UInt8:=if 65<=b.toNat∧b.toNat<=90 then UInt8.ofNat (b.toNat+32)else b
theorem aQ2(b:UInt8):(lowB b).toNat=if 65<=b.toNat∧b.toNat<=90 then b.toNat+32 else b.toNat:=by
 unfold lowB;split
 .rename_i h;simp;omega
 .rfl
def lowL(s:List UInt8):List UInt8:=s.map lowB
def aGw(n:Nat):List UInt8:=[[],[84,97,108,107],[85,115,101,114],[84,101,109,112,108,97,116,101],[67,97,116,101,103,111,114,121],[80,114,111,106,101,99,116]].getD n []
def unbl(s:List UInt8):List UInt8:=if s.getLast?=some 32 then s.dropLast else s
def nsF(p:List UInt8):Nat->Nat->Nat
 | 0,_=>0
 | k+1,n=>if lowL p=lowL (aGw n)then n else nsF p k (n+1)
def colF(s:List UInt8):Option Nat:=s.findIdx? (·==58)
def aF7(s:List UInt8):Nat:=match colF s with
 | none=>0
 | some i=>nsF (unbl (s.take i)) 5 1
def badB(c:UInt8):Bool:=decide (c.toNat<32)||decide (c.toNat=127)||[60,62,91,93,123,125,124,35,95].contains c
def aDp(pb:Bool):List UInt8->Bool
 | []=>true
 | c::r=>!badB c&&!(decide (c=32)&&pb)&&aDp (decide (c=32)) r
def aGn(p:List UInt8):Bool:=!decide (p=[])&&!decide (p.getD 0 0=32)&&!decide (p.getD (p.length-1) 0=32)
def aHq(s:List UInt8):Bool:=decide ((s.getD 0 0).toNat=58)||(decide (97<=(s.getD 0 0).toNat)&&decide ((s.getD 0 0).toNat<=122))
def aBn(sp:Int)(s:List UInt8):Bool:=
 decide (0<=sp)&&decide (sp<6)&&decide (1<=s.length)&&decide (s.length<=100)&&aDp false s&&(aAi s).all aGn&&!aHq s&&(!decide (sp=0)||decide (aF7 s=0))
variable {P:Program} {F T:Nat->Nat}
open Go.Lib
theorem aE5(c:UInt8):∀s:List UInt8,indexByte s c=match s.findIdx? (·==c)with|none=>-1|some i=>(i:Int)
 | []=>rfl
 | x::r=>by
   have ih:=aE5 c r;by_cases hx:x=c
   .subst hx;simp[indexByte,yw]
   .have hx':(x==c)=false:=by grind
    simp only[indexByte,hx',yw,Bool.false_eq_true,if_false];grind
theorem aLb{c:UInt8}{s:List UInt8}{i:Nat}(h:s.findIdx? (·==c)=some i):s=s.take i++c::s.drop (i+1)∧(∀b,b∈s.take i->b≠c)∧i<s.length:=by
 rw[List.findIdx?_eq_some_iff_getElem]at h;obtain⟨hi,h1,h2⟩:=h;have hc:s[i]=c:=by grind
 refine⟨?_,λb hb=>?_,hi⟩
 .conv=>lhs;rw[<-List.take_append_drop i s,zT hi,hc]
 .obtain⟨j,hj,rfl⟩:=List.mem_iff_getElem.1 hb;grind
theorem aNm{c:UInt8}{s:List UInt8}(h:s.findIdx? (·==c)=none):∀b,b∈s->b≠c:=by
 grind
theorem aGq:∀(n:Nat) (s:List UInt8),s.length<=n->split s [47]=aAi s:=by
 intro n;induction n with
 | zero=>intro s hs;have:s=[]:=List.length_eq_zero_iff.1 (by omega);subst this;rfl
 | succ n ih =>
   intro s hs;have hix:index s [47]=indexByte s 47:=index_one s 47;rw[aE5]at hix;cases hf:s.findIdx? (·==47)with
   | none=>rw[hf]at hix;rw[split,count_miss hix,splitK,aI0 (aNm hf)]
   | some i =>
     rw[hf]at hix;simp only at hix;obtain⟨h1,h2,h3⟩:=aLb hf;have hm:¬(index s [47]==-1)=true:=λe=>by grind
     have ht:(index s [47]).toNat=i:=by omega
     have ih':=ih (s.drop (i+1)) (by grind);rw[split,count_hit (by simp) hix,wZ,splitK,if_neg hm,ht,Nat.add_zero];rw[split]at ih';simp only[List.length_singleton];rw[ih']
     conv=>rhs;rw[h1,aJ0 h2]
structure TitC(P:Program)(F:Nat->Nat):Prop where
 split:∀s:List UInt8,s.length<=100000->PTr P (F 171) [.str s,.str [47]] (.lst 1 ((aAi s).map .str))
 cut:∀s:List UInt8,s.length<=100000->PTr P (F 172) [.str s,.str [58]] (match colF s with|none=>.tup [.str s,.str [],.bool false]|some i=>.tup [.str (s.take i),.str (s.drop (i+1)),.bool true])
 tsuf:∀s:List UInt8,s.length<=100000->PTr P (F 173) [.str s,.str [32]] (.str (unbl s))
 ib:∀(s:List UInt8) (c:UInt8),PTr P (F 120) [.str s,.int .u8 c.toNat] (.int .i64 (indexByte s c))
end Go.Ab
namespace Go.Ab
open Go.Lib
theorem aXj(l:List UInt8)(c:UInt8):0<=indexByte l c↔l.contains c=true:=by
 rw[aE5];grind
def pbAt(s:List UInt8)(i:Nat):Bool:=decide (0<i)&&decide ((s.getD (i-1) 0).toNat=32)
theorem eq32(c:UInt8):c=32↔c.toNat=32:=⟨λe=>by simp_all,λe=>by
 have:c=UInt8.ofNat c.toNat:=by simp
 rw[this,e];rfl⟩
theorem aKw(s:List UInt8){i:Nat}(h:i<s.length):aDp (pbAt s i) (s.drop i)=(!badB (s.getD i 0)&&!(decide ((s.getD i 0).toNat=32)&&pbAt s i)&&aDp (pbAt s (i+1)) (s.drop (i+1))):=by
 have e1:s.getD i 0=s[i]:=by grind
 have e2:pbAt s (i+1)=decide (s[i].toNat=32):=by simp[pbAt,List.getD,h]
 rw[zT h,aDp,e1,e2];simp only[eq32]
theorem aN9(s:List UInt8)(b:Bool):aDp b (s.drop s.length)=true:=by simp[aDp]
structure Scp where
 k:Int
 sp:Int
 n:List UInt8
def Scp.v(x:Scp):V:=.agg [.int .i64 x.k,.int .i64 x.sp,.str x.n]
structure Rul where
 al:Bool
 ri:Int
 gr:List UInt8
 sc:Scp
def Rul.v(x:Rul):V:=.agg [.bool x.al,.int .i64 x.ri,.str x.gr,.int .i64 x.sc.k,.int .i64 x.sc.sp,.str x.sc.n]
def ruV(l:List Rul):List V:=l.map Rul.v
variable {P:Program} {F T:Nat->Nat}
theorem aX4{D:Nat->Prop}{w:World}(hD:∀b,D b->b<w.heap.size)(l:List (List UInt8))(n ty:Nat)(hn:n=l.length)(hl:∀q,q∈l->q.length<2^63)(hn2:n<2^63):
 Rep (λ_=>none) D (w.alloc (.cells ((l.map λq=>Value.string ⟨q.toArray⟩).toArray) ty)) (.lst 1 (l.map .str)) (.slice (some ⟨w.heap.size,0,none⟩) n n):=by
 have hc:∀(i j:Nat) (c:V),(((l.map V.str)[i]?).bind λe=>e.cells[j]?)=some c->∃q,l[i]?=some q∧j=0∧c=.str q:=by
  intro i j c h;cases hq:l[i]? with
  | none=>grind
  | some q=>simp only[List.getElem?_map,hq,Option.map_some,Option.bind_some,V.cells]at h;grind
 have hcell:∀(i:Nat) (q:List UInt8),l[i]?=some q->(w.alloc (.cells ((l.map λq=>Value.string ⟨q.toArray⟩).toArray) ty)).cell? ⟨w.heap.size,i,none⟩=some (.string ⟨q.toArray⟩):=by simp
 have hlen:n=(l.map V.str).length:=by grind
 rw[hlen];refine .lst 1 _ _ _ w.heap.size 0 (zx _) (by omega) (λ_=>⟨rfl,by simp,λh=>by grind⟩) (λe he=>?_) (λi j c h=>?_) (λi j c h=>?_)
 .obtain⟨q,_,rfl⟩:=List.mem_map.1 he;rfl
 .obtain⟨q,h1,rfl,rfl⟩:=hc i j c h;grind
 .obtain⟨q,h1,rfl,rfl⟩:=hc i j c h;rw[show 0+i*1+0=i by omega,aC0,hcell i q h1];exact .str _ (hl q (List.mem_of_getElem? h1))
theorem aDw{s:List UInt8}:∀q,q∈aAi s->q.length<=s.length:=by
 induction s with
 | nil=>intro q hq;simp[aAi]at hq;grind
 | cons x r ih=>intro q hq;obtain⟨p,u,hp⟩:=aEu r;simp only[aAi,hp]at hq ih;grind
theorem bB4(s:List UInt8):trimSuffix s [32]=unbl s:=by
 unfold trimSuffix unbl;rcases List.eq_nil_or_concat s with rfl|⟨u,x,rfl⟩
 .rfl
 .have e1:hasSuffix (u.concat x) [32]=((32:UInt8)==x):=by simp[hasSuffix,List.isSuffixOf,yy]
  grind
theorem bDe(s:List UInt8):cut s [58]=match colF s with|none=>(s,[],false)|some i=>(s.take i,s.drop (i+1),true):=by
 have hi:index s [58]=indexByte s 58:=index_one s 58;rw[aE5]at hi;unfold cut colF;grind
theorem bF4{x:Nat}{ty:Nat}(g:gint P x)
 (h1:∀(s sep:ByteArray) (m:Int) (w:World),s.size<4294967281->w.cell? ⟨x,0,none⟩=some (.int .i64 m)->1<=sep.size ->
  Calls P (F 171) #[.string s,.string sep] w λe w'=>e=.returned (.slice (some ⟨w.heap.size,0,none⟩) (countB s sep+1) (countB s sep+1))∧w'=w.alloc (.cells ((splitB sep 0 (countB s sep) s).map Value.string).toArray ty))
 (h2:∀(s sep:ByteArray) (m:Int) (w:World),s.size<4294967281->w.cell? ⟨x,0,none⟩=some (.int .i64 m) ->
  Calls P (F 172) #[.string s,.string sep] w λe w'=>e=.returned (.tuple #[.string ⟨(cut s.data.toList sep.data.toList).1.toArray⟩,.string ⟨(cut s.data.toList sep.data.toList).2.1.toArray⟩,.bool (cut s.data.toList sep.data.toList).2.2])∧∃n,w'=w.drewN n)
 (h3:∀(s p:ByteArray) (w:World),s.size<=9223372036854775807->Calls P (F 173) #[.string s,.string p] w λe w'=>e=.returned (.string ⟨(trimSuffix s.data.toList p.data.toList).toArray⟩)∧w'=w)
 (h4:∀(s:ByteArray) (c:Int) (w:World),Calls P (F 120) #[.string s,.int .u8 c] w λe w'=>e=.returned (.int .i64 (indexByte s.data.toList c.toNat.toUInt8))∧w'=w):TitC P F:=by
 refine⟨λs hs=>?_,λs hs=>?_,λs hs=>?_,λs c=>?_⟩
 .intro D w vs hD hg hl hr;obtain⟨u,v,rfl,hu,hv⟩:=vs2 hl hr;cases hu;cases hv
  obtain⟨m,hm⟩:=hg.1 x g;refine(h1 ⟨s.toArray⟩ ⟨([47]:List UInt8).toArray⟩ m w (by simp[zA];omega) hm (by simp[zA])).mono ?_;rintro e w' ⟨rfl,rfl⟩;have hd:=splitB_data ⟨([47]:List UInt8).toArray⟩ 0 (countB ⟨s.toArray⟩ ⟨([47]:List UInt8).toArray⟩) ⟨s.toArray⟩;have hsp:=aGq s.length s (zx _);have hall:=splitB_all ⟨([47]:List UInt8).toArray⟩ (by simp[zA]) 0 _ ⟨s.toArray⟩ rfl;have hd2:(splitB ⟨([47]:List UInt8).toArray⟩ 0 (countB ⟨s.toArray⟩ ⟨([47]:List UInt8).toArray⟩) ⟨s.toArray⟩).map (·.data.toList)=aAi s:=by rw[hd];exact hsp
  generalize splitB ⟨([47]:List UInt8).toArray⟩ 0 (countB ⟨s.toArray⟩ ⟨([47]:List UInt8).toArray⟩) ⟨s.toArray⟩=l at *;have hl2:l.length=(aAi s).length:=by grind
  have hmap:l.map Value.string=(aAi s).map λq=>Value.string ⟨q.toArray⟩:=by rw[<-hd2,List.map_map];rfl
  rw[hmap];have hcn:=count_le s [47];have hcn2:countB ⟨s.toArray⟩ ⟨([47]:List UInt8).toArray⟩=count s [47]:=rfl;refine⟨_,rfl,aBj w _,aX4 hD (aAi s) _ ty (by omega) (λq hq=>by have:=aDw q hq;omega) (by omega)⟩
 .intro D w vs hD hg hl hr;obtain⟨u,v,rfl,hu,hv⟩:=vs2 hl hr;cases hu;cases hv
  obtain⟨m,hm⟩:=hg.1 x g;refine(h2 ⟨s.toArray⟩ ⟨([58]:List UInt8).toArray⟩ m w (by simp[zA];omega) hm).mono ?_;rintro e w' ⟨rfl,n,rfl⟩;refine⟨_,rfl,?_,?_⟩
  .exact⟨rfl,rfl,rfl,zx _,λ_ _=>rfl⟩
  .have hc:=bDe s;show Rep _ _ _ _ (.tuple #[.string ⟨(cut s [58]).1.toArray⟩,.string ⟨(cut s [58]).2.1.toArray⟩,.bool (cut s [58]).2.2]);rw[hc];cases colF s with
   | none =>
     refine .tup _ _ rfl λi c hi=>?_
     match i,hi with
     | 0,hi=>simp at hi;subst hi;exact .str _ (by omega)
     | 1,hi=>simp at hi;subst hi;exact .str _ (by simp)
     | 2,hi=>simp at hi;subst hi;exact .bool _
   | some k =>
     refine .tup _ _ rfl λi c hi=>?_
     match i,hi with
     | 0,hi=>simp at hi;subst hi;exact .str _ (by grind)
     | 1,hi=>simp at hi;subst hi;exact .str _ (by grind)
     | 2,hi=>simp at hi;subst hi;exact .bool _
 .intro D w vs hD hg hl hr;obtain⟨u,v,rfl,hu,hv⟩:=vs2 hl hr;cases hu;cases hv
  refine(h3 ⟨s.toArray⟩ ⟨([32]:List UInt8).toArray⟩ w (by simp[zA];omega)).mono ?_;rintro e w' ⟨rfl,rfl⟩;refine⟨_,rfl,Go.RowKit.Below.refl _ _,?_⟩;show Rep _ _ _ _ (.string ⟨(trimSuffix s [32]).toArray⟩);rw[bB4];refine .str _ ?_;unfold unbl;grind
 .intro D w vs hD hg hl hr;obtain⟨u,v,rfl,hu,hv⟩:=vs2 hl hr;cases hu;cases hv
  refine(h4 ⟨s.toArray⟩ c.toNat w).mono ?_;rintro e w' ⟨rfl,rfl⟩;refine⟨_,rfl,Go.RowKit.Below.refl _ _,?_⟩;have:((c.toNat:Nat):Int).toNat.toUInt8=c:=by simp
  rw[this];exact .int _ _
end Go.Ab
namespace Go.Ab
open Go.Lib
theorem aLq(c:UInt8):∀(s:List UInt8) (i:Nat),idxF [c] s i=(s.findIdx? (·==c)).map (·+i)
 | [],i=>by simp[idxF]
 | x::r,i=>by
   have ih:=aLq c r (i+1);by_cases h:x=c
   .subst h;simp[idxF,yy,yw]
   .have h2:(x==c)=false:=by simpa using h
    have h3:(c==x)=false:=by rw[beq_eq_false_iff_ne];exact λe=>h e.symm
    simp only[idxF,yy,h3,Bool.false_and,Bool.false_eq_true,if_false,ih,yw,h2];cases r.findIdx? (·==c)<;>simp[Nat.add_assoc,wZ 1]
structure Grd where
 st:Bool
 gr:List UInt8
 sp:Int
 n:List UInt8
 sec:List UInt8
def Grd.v(x:Grd):V:=.agg [.bool x.st,.str x.gr,.int .i64 x.sp,.str x.n,.str x.sec]
def gdV(l:List Grd):List V:=l.map Grd.v
end Go.Ab
namespace Go.Ab
def c185(F T:Nat->Nat):C:=.n [.box 1 (T 17) (.t 0),.mov (some 2) (.k (.bool false))]<|.n [.f 9 1 1,.l 10 9,.m 3 10]<|.seq (.seq (.ops false [⟨none,[.f 11 0 1,.l 12 11,.bi 13 .lss 12 0,.m 14 13]⟩,⟨some (14,false),[.f 15 0 1,.l 16 15,.bi 17 .geq 16 6]⟩,⟨none,[.pt 18 14 17,.m 19 18]⟩,⟨some (19,false),[.m 20 3,.ls 21 20,.bi 22 .lss 21 1]⟩,⟨none,[.pt 23 19 22,.m 24 23]⟩,⟨some (24,false),[.m 25 3,.ls 26 25,.bi 27 .gtr 26 100]⟩,⟨none,[.pt 28 24 27,.m 29 28]⟩,⟨some (29,false),[.m 30 3,.c 31 (F 187) [.t 30],.un (some 32) .not (.t 31)]⟩,⟨none,[.pt 33 29 32]⟩])<|.cond (.t 33) (.n [.mov (some 2) (.k (.bool false))]<|.ret) (.skip))<|.seq (.n [.m 34 3,.c 35 (F 171) [.t 34,.s [47]],.ll 36 35,.mov (some 37) (.i 0)]<|.block 0<|.loop<|.n [.b 38 .lss 37 36]<|.seq (.cond (.t 38) (.skip) (.exit 0))<|.seq (.block 1<|.n [.ia 39 1 35 37,.l 40 39,.m 5 40]<|.seq (.ops false [⟨none,[.m 41 5,.bin (some 42) .eql (.t 41) (.s []),.m 43 42]⟩,⟨some (43,false),[.m 44 5,.idx (some 45) (.t 44) (.i 0),.bin (some 46) .eql (.t 45) (.k (.int .u8 32))]⟩,⟨none,[.pt 47 43 46,.m 48 47]⟩,⟨some (48,false),[.m 49 5,.m 50 5,.ls 51 50,.bi 52 .sub 51 1,.ix 53 49 52,.bin (some 54) .eql (.t 53) (.k (.int .u8 32))]⟩,⟨none,[.pt 55 48 54]⟩])<|.cond (.t 55) (.n [.mov (some 2) (.k (.bool false))]<|.ret) (.skip))<|.o [.bi 56 .add 37 1,.m 37 56])<|.seq (.seq (.ops false [⟨none,[.m 57 3,.idx (some 58) (.t 57) (.i 0),.bin (some 59) .eql (.t 58) (.k (.int .u8 58)),.m 60 59]⟩,⟨some (60,false),[.m 61 3,.idx (some 62) (.t 61) (.i 0),.bin (some 63) .geq (.t 62) (.k (.int .u8 97)),.m 64 63]⟩,⟨some (64,true),[.m 65 3,.idx (some 66) (.t 65) (.i 0),.bin (some 67) .leq (.t 66) (.k (.int .u8 122))]⟩,⟨some (60,false),[.pf 68 64 67]⟩,⟨none,[.pt 69 60 68]⟩])<|.cond (.t 69) (.n [.mov (some 2) (.k (.bool false))]<|.ret) (.skip))<|.n [.m 71 3,.c 72 (F 188) [.t 71],.m 70 72,.x 73 0 70,.x 74 1 70,.x 75 2 70,.m 6 73,.m 7 74,.m 8 75]<|.seq (.ops false [⟨none,[.f 76 0 1,.l 77 76,.bi 78 .neq 77 0,.m 79 78]⟩,⟨some (79,false),[.m 80 8,.un (some 81) .not (.t 80)]⟩,⟨none,[.pt 82 79 81,.m 2 82]⟩])<|.ret
abbrev bFi(P:Program)(F T:Nat->Nat):Prop:=Fn P (F 185) 83 [(2,none)] (c185 F T)
def c187(F T:Nat->Nat):C:=.n [.mov (some 2) (.k (.bool false))]<|.seq (.n [.mov (some 3) (.i 0)]<|.block 0<|.loop<|.seq (.n [.m 5 3,.m 6 0,.ls 7 6,.b 8 .lss 5 7]<|.cond (.t 8) (.skip) (.exit 0))<|.seq (.block 1<|.n [.m 11 0,.m 12 3,.ix 13 11 12,.m 4 13]<|.seq (.ops false [⟨none,[.m 14 4,.bin (some 15) .lss (.t 14) (.k (.int .u8 32)),.m 16 15]⟩,⟨some (16,false),[.m 17 4,.bin (some 18) .eql (.t 17) (.k (.int .u8 127))]⟩,⟨none,[.pt 19 16 18,.m 20 19]⟩,⟨some (20,false),[.m 21 4,.c 22 (F 120) [.s [60,62,91,93,123,125,124,35,95],.t 21],.bi 23 .geq 22 0]⟩,⟨none,[.pt 24 20 23,.m 25 24]⟩,⟨some (25,false),[.m 26 4,.bin (some 27) .eql (.t 26) (.k (.int .u8 32)),.m 28 27]⟩,⟨some (28,true),[.m 29 3,.bi 30 .gtr 29 0]⟩,⟨some (25,false),[.pf 31 28 30,.m 32 31]⟩,⟨some (32,true),[.m 33 0,.m 34 3,.bi 35 .sub 34 1,.ix 36 33 35,.bin (some 37) .eql (.t 36) (.k (.int .u8 32))]⟩,⟨some (25,false),[.pf 38 32 37]⟩,⟨none,[.pt 39 25 38]⟩])<|.cond (.t 39) (.n [.mov (some 2) (.k (.bool false))]<|.ret) (.skip))<|.o [.m 9 3,.bi 10 .add 9 1,.m 3 10])<|.n [.mov (some 2) (.k (.bool true))]<|.ret
abbrev aZc(P:Program)(F T:Nat->Nat):Prop:=Fn P (F 187) 40 [(2,none)] (c187 F T)
def c188(F T:Nat->Nat):C:=.n [.mov (some 2) (.i 0),.mov (some 3) (.s []),.mov (some 4) (.k (.bool false))]<|.n [.m 12 0,.c 13 (F 172) [.t 12,.s [58]],.m 11 13,.x 14 0 11,.x 15 1 11,.x 16 2 11,.m 5 14,.m 6 15,.m 7 16]<|.seq (.n [.m 17 7,.un (some 18) .not (.t 17)]<|.cond (.t 18) (.n [.mov (some 2) (.i 0),.mov (some 3) (.s []),.mov (some 4) (.k (.bool false))]<|.ret) (.skip))<|.n [.m 19 5,.c 20 (F 173) [.t 19,.s [32]],.c 21 (F 189) [.t 20],.m 8 21]<|.seq (.n [.c 22 (F 190) [],.mov (some 23) (.i 0)]<|.block 0<|.loop<|.n [.bi 24 .lss 23 6]<|.seq (.cond (.t 24) (.skip) (.exit 0))<|.seq (.block 1<|.n [.m 25 23,.idxA (some 26) 6 1 false (.t 22) (.t 23),.m 9 25,.m 10 26]<|.seq (.ops false [⟨none,[.m 27 9,.bi 28 .neq 27 0,.m 29 28]⟩,⟨some (29,true),[.m 30 8,.m 31 10,.c 32 (F 189) [.t 31],.b 33 .eql 30 32]⟩,⟨none,[.pf 34 29 33]⟩])<|.cond (.t 34) (.n [.m 35 9,.m 36 6,.m 2 35,.m 3 36,.mov (some 4) (.k (.bool true))]<|.ret) (.skip))<|.o [.bi 37 .add 23 1,.m 23 37])<|.n [.mov (some 2) (.i 0),.mov (some 3) (.s []),.mov (some 4) (.k (.bool false))]<|.ret
abbrev bA5(P:Program)(F T:Nat->Nat):Prop:=Fn P (F 188) 38 [(2,none),(3,none),(4,none)] (c188 F T)
def c189(F T:Nat->Nat):C:=.n [.mov (some 2) (.s [])]<|.n [.m 6 0,.s2b 7 (T 3) (.t 6),.m 3 7]<|.seq (.n [.m 8 3,.ll 9 8,.mov (some 10) (.i 0)]<|.block 0<|.loop<|.n [.b 11 .lss 10 9]<|.seq (.cond (.t 11) (.skip) (.exit 0))<|.seq (.block 1<|.n [.m 12 10,.ia 13 1 8 10,.l 14 13,.m 4 12,.m 5 14]<|.seq (.ops false [⟨none,[.m 15 5,.bin (some 16) .geq (.t 15) (.k (.int .u8 65)),.m 17 16]⟩,⟨some (17,true),[.m 18 5,.bin (some 19) .leq (.t 18) (.k (.int .u8 90))]⟩,⟨none,[.pf 20 17 19]⟩])<|.cond (.t 20) (.o [.m 21 3,.m 22 4,.m 23 5,.bin (some 24) .add (.t 23) (.k (.int .u8 32)),.ia 25 1 21 22,.store 1 (.t 25) (.t 24)]) (.skip))<|.o [.bi 26 .add 10 1,.m 10 26])<|.n [.m 27 3,.b2s (some 28) (.t 27),.m 2 28]<|.ret
abbrev aUk(P:Program)(F T:Nat->Nat):Prop:=Fn P (F 189) 29 [(2,none)] (c189 F T)
def c190(F T:Nat->Nat):C:=.n [.alloc 0 (T 25) [(.str []),(.str []),(.str []),(.str []),(.str []),(.str [])]]<|.n [.build (some 1) [(.str []),(.str []),(.str []),(.str []),(.str []),(.str [])] [(0,1,(.s [])),(1,1,(.s [84,97,108,107])),(2,1,(.s [85,115,101,114])),(3,1,(.s [84,101,109,112,108,97,116,101])),(4,1,(.s [67,97,116,101,103,111,114,121])),(5,1,(.s [80,114,111,106,101,99,116]))],.store 6 (.t 0) (.t 1)]<|.ret
abbrev aVx(P:Program)(F T:Nat->Nat):Prop:=Fn P (F 190) 2 [(0,(some (6,true)))] (c190 F T)
def c191(F T:Nat->Nat):C:=.n [.mov (some 2) (.k (.bool false))]<|.seq (.seq (.ops false [⟨none,[.m 5 0,.ls 6 5,.bi 7 .lss 6 1,.m 8 7]⟩,⟨some (8,false),[.m 9 0,.ls 10 9,.bi 11 .gtr 10 30]⟩,⟨none,[.pt 12 8 11,.m 13 12]⟩,⟨some (13,false),[.m 14 0,.idx (some 15) (.t 14) (.i 0),.bin (some 16) .lss (.t 15) (.k (.int .u8 97))]⟩,⟨none,[.pt 17 13 16,.m 18 17]⟩,⟨some (18,false),[.m 19 0,.idx (some 20) (.t 19) (.i 0),.bin (some 21) .gtr (.t 20) (.k (.int .u8 122))]⟩,⟨none,[.pt 22 18 21]⟩])<|.cond (.t 22) (.n [.mov (some 2) (.k (.bool false))]<|.ret) (.skip))<|.seq (.n [.m 23 0,.ls 24 23,.mov (some 25) (.i 0)]<|.block 0<|.loop<|.n [.b 26 .lss 25 24]<|.seq (.cond (.t 26) (.skip) (.exit 0))<|.seq (.block 1<|.n [.m 27 25,.m 3 27]<|.seqc (.o [.m 28 0,.m 29 3,.ix 30 28 29,.m 4 30])<|.seq (.ops false [⟨none,[.m 31 4,.bin (some 32) .lss (.t 31) (.k (.int .u8 97)),.m 33 32]⟩,⟨some (33,false),[.m 34 4,.bin (some 35) .gtr (.t 34) (.k (.int .u8 122))]⟩,⟨none,[.pt 36 33 35,.m 37 36]⟩,⟨some (37,true),[.m 38 4,.bin (some 39) .lss (.t 38) (.k (.int .u8 48)),.m 40 39]⟩,⟨some (40,false),[.m 41 4,.bin (some 42) .gtr (.t 41) (.k (.int .u8 57))]⟩,⟨some (37,true),[.pt 43 40 42]⟩,⟨none,[.pf 44 37 43,.m 45 44]⟩,⟨some (45,true),[.m 46 4,.bin (some 47) .neq (.t 46) (.k (.int .u8 45))]⟩,⟨none,[.pf 48 45 47,.m 49 48]⟩,⟨some (49,true),[.m 50 4,.bin (some 51) .neq (.t 50) (.k (.int .u8 95))]⟩,⟨none,[.pf 52 49 51]⟩])<|.cond (.t 52) (.n [.mov (some 2) (.k (.bool false))]<|.ret) (.skip))<|.o [.bi 53 .add 25 1,.m 25 53])<|.n [.mov (some 2) (.k (.bool true))]<|.ret
abbrev bGn(P:Program)(F T:Nat->Nat):Prop:=Fn P (F 191) 54 [(2,none)] (c191 F T)
def c199(F T:Nat->Nat):C:=.n [.box 1 (T 17) (.t 0),.mov (some 2) (.k (.bool false))]<|.n [.f 9 1 1,.l 10 9,.m 3 10]<|.seq (.seq (.ops false [⟨none,[.f 11 0 1,.l 12 11,.bi 13 .lss 12 0,.m 14 13]⟩,⟨some (14,false),[.f 15 0 1,.l 16 15,.bi 17 .geq 16 6]⟩,⟨none,[.pt 18 14 17,.m 19 18]⟩,⟨some (19,false),[.m 20 3,.ls 21 20,.bi 22 .lss 21 1]⟩,⟨none,[.pt 23 19 22,.m 24 23]⟩,⟨some (24,false),[.m 25 3,.ls 26 25,.bi 27 .gtr 26 100]⟩,⟨none,[.pt 28 24 27]⟩])<|.cond (.t 28) (.n [.mov (some 2) (.k (.bool false))]<|.ret) (.skip))<|.seq (.n [.mov (some 4) (.i 0)]<|.block 0<|.loop<|.seq (.n [.m 29 4,.m 30 3,.ls 31 30,.b 32 .lss 29 31]<|.cond (.t 32) (.skip) (.exit 0))<|.seq (.block 1<|.seq (.ops false [⟨none,[.m 35 3,.m 36 4,.ix 37 35 36,.bin (some 38) .lss (.t 37) (.k (.int .u8 32)),.m 39 38]⟩,⟨some (39,false),[.m 40 3,.m 41 4,.ix 42 40 41,.bin (some 43) .eql (.t 42) (.k (.int .u8 127))]⟩,⟨none,[.pt 44 39 43,.m 45 44]⟩,⟨some (45,false),[.m 46 3,.m 47 4,.m 48 4,.bi 49 .add 48 1,.slcS (some 50) (.t 46) (some (.t 47)) (some (.t 49)),.c 51 (F 102) [.s [60,62,91,93,123,125,124,35,95],.t 50,.i 0],.bi 52 .geq 51 0]⟩,⟨none,[.pt 53 45 52,.m 54 53]⟩,⟨some (54,false),[.m 55 3,.m 56 4,.ix 57 55 56,.bin (some 58) .eql (.t 57) (.k (.int .u8 32)),.m 59 58]⟩,⟨some (59,true),[.m 60 4,.bi 61 .gtr 60 0]⟩,⟨some (54,false),[.pf 62 59 61,.m 63 62]⟩,⟨some (63,true),[.m 64 3,.m 65 4,.bi 66 .sub 65 1,.ix 67 64 66,.bin (some 68) .eql (.t 67) (.k (.int .u8 32))]⟩,⟨some (54,false),[.pf 69 63 68]⟩,⟨none,[.pt 70 54 69]⟩])<|.cond (.t 70) (.n [.mov (some 2) (.k (.bool false))]<|.ret) (.skip))<|.o [.m 33 4,.bi 34 .add 33 1,.m 4 34])<|.n [.m 71 3,.c 72 (F 201) [.t 71],.m 5 72]<|.seq (.n [.mov (some 6) (.i 0)]<|.block 2<|.loop<|.seq (.n [.m 73 6,.m 74 5,.ll 75 74,.b 76 .lss 73 75]<|.cond (.t 76) (.skip) (.exit 2))<|.seq (.block 3<|.seq (.ops true [⟨none,[.m 79 5,.m 80 6,.ia 81 1 79 80,.l 82 81,.bin (some 83) .eql (.t 82) (.s []),.m 84 83]⟩,⟨some (84,false),[.m 85 5,.m 86 6,.ia 87 1 85 86,.l 88 87,.idx (some 89) (.t 88) (.i 0),.bin (some 90) .eql (.t 89) (.k (.int .u8 32))]⟩,⟨none,[.pt 91 84 90,.m 92 91]⟩,⟨some (92,false),[.m 93 5,.m 94 6,.ia 95 1 93 94,.l 96 95,.m 97 5,.m 98 6,.ia 99 1 97 98,.l 100 99,.ls 101 100,.bi 102 .sub 101 1,.ix 103 96 102,.bin (some 104) .eql (.t 103) (.k (.int .u8 32))]⟩,⟨none,[.pt 105 92 104]⟩])<|.cond (.t 105) (.n [.mov (some 2) (.k (.bool false))]<|.ret) (.skip))<|.o [.m 77 6,.bi 78 .add 77 1,.m 6 78])<|.seq (.seq (.ops false [⟨none,[.m 106 3,.idx (some 107) (.t 106) (.i 0),.bin (some 108) .eql (.t 107) (.k (.int .u8 58)),.m 109 108]⟩,⟨some (109,false),[.m 110 3,.idx (some 111) (.t 110) (.i 0),.bin (some 112) .geq (.t 111) (.k (.int .u8 97)),.m 113 112]⟩,⟨some (113,true),[.m 114 3,.idx (some 115) (.t 114) (.i 0),.bin (some 116) .leq (.t 115) (.k (.int .u8 122))]⟩,⟨some (109,false),[.pf 117 113 116]⟩,⟨none,[.pt 118 109 117]⟩])<|.cond (.t 118) (.n [.mov (some 2) (.k (.bool false))]<|.ret) (.skip))<|.n [.m 120 3,.c 121 (F 202) [.t 120],.m 119 121,.x 122 0 119,.x 123 1 119,.m 7 122,.m 8 123]<|.seq (.ops false [⟨none,[.f 124 0 1,.l 125 124,.bi 126 .neq 125 0,.m 127 126]⟩,⟨some (127,false),[.m 128 7,.bi 129 .eql 128 0]⟩,⟨none,[.pt 130 127 129,.m 2 130]⟩])<|.ret
abbrev bF7(P:Program)(F T:Nat->Nat):Prop:=Fn P (F 199) 131 [(2,none)] (c199 F T)
def c202(F T:Nat->Nat):C:=.n [.mov (some 2) (.i 0),.mov (some 3) (.i 0)]<|.n [.m 7 0,.c 8 (F 102) [.t 7,.s [58],.i 0],.m 4 8]<|.seq (.n [.m 9 4,.bi 10 .lss 9 0]<|.cond (.t 10) (.n [.mov (some 2) (.i 0),.mov (some 3) (.i 0)]<|.ret) (.skip))<|.n [.m 11 0,.m 12 4,.slcS (some 13) (.t 11) none (some (.t 12)),.m 5 13]<|.seqc (.seq (.ops false [⟨none,[.m 14 5,.ls 15 14,.bi 16 .gtr 15 0,.m 17 16]⟩,⟨some (17,true),[.m 18 5,.m 19 5,.ls 20 19,.bi 21 .sub 20 1,.ix 22 18 21,.bin (some 23) .eql (.t 22) (.k (.int .u8 32))]⟩,⟨none,[.pf 24 17 23]⟩])<|.cond (.t 24) (.o [.m 25 5,.m 26 5,.ls 27 26,.bi 28 .sub 27 1,.slcS (some 29) (.t 25) none (some (.t 28)),.m 5 29]) (.skip))<|.seq (.n [.mov (some 6) (.i 1)]<|.block 0<|.loop<|.seq (.n [.m 30 6,.bi 31 .lss 30 6]<|.cond (.t 31) (.skip) (.exit 0))<|.seq (.block 1<|.n [.m 34 5,.m 35 6,.c 36 (F 205) [.t 35],.c 37 (F 203) [.t 34,.t 36]]<|.cond (.t 37) (.n [.m 38 6,.m 39 4,.m 2 38,.m 3 39]<|.ret) (.skip))<|.o [.m 32 6,.bi 33 .add 32 1,.m 6 33])<|.n [.mov (some 2) (.i 0),.mov (some 3) (.i 0)]<|.ret
abbrev bBc(P:Program)(F T:Nat->Nat):Prop:=Fn P (F 202) 40 [(2,none),(3,none)] (c202 F T)
def c203(F T:Nat->Nat):C:=.n [.mov (some 4) (.k (.bool false))]<|.seq (.n [.m 6 0,.ls 7 6,.m 8 1,.ls 9 8,.b 10 .neq 7 9]<|.cond (.t 10) (.n [.mov (some 4) (.k (.bool false))]<|.ret) (.skip))<|.seq (.n [.mov (some 5) (.i 0)]<|.block 0<|.loop<|.seq (.n [.m 11 5,.m 12 0,.ls 13 12,.b 14 .lss 11 13]<|.cond (.t 14) (.skip) (.exit 0))<|.seq (.block 1<|.seq (.p [.m 17 0,.m 18 5,.ix 19 17 18,.c 20 (F 204) [.t 19],.m 21 1,.m 22 5,.ix 23 21 22,.c 24 (F 204) [.t 23],.b 25 .neq 20 24])<|.cond (.t 25) (.n [.mov (some 4) (.k (.bool false))]<|.ret) (.skip))<|.o [.m 15 5,.bi 16 .add 15 1,.m 5 16])<|.n [.mov (some 4) (.k (.bool true))]<|.ret
abbrev aYy(P:Program)(F T:Nat->Nat):Prop:=Fn P (F 203) 26 [(4,none)] (c203 F T)
def c204(F T:Nat->Nat):C:=.n [.mov (some 2) (.k (.int .u8 0))]<|.seq (.seq (.ops false [⟨none,[.m 3 0,.bin (some 4) .geq (.t 3) (.k (.int .u8 65)),.m 5 4]⟩,⟨some (5,true),[.m 6 0,.bin (some 7) .leq (.t 6) (.k (.int .u8 90))]⟩,⟨none,[.pf 8 5 7]⟩])<|.cond (.t 8) (.n [.m 9 0,.bin (some 10) .add (.t 9) (.k (.int .u8 32)),.m 2 10]<|.ret) (.skip))<|.n [.m 11 0,.m 2 11]<|.ret
abbrev aTi(P:Program)(F T:Nat->Nat):Prop:=Fn P (F 204) 12 [(2,none)] (c204 F T)
def c205(F T:Nat->Nat):C:=.n [.mov (some 2) (.s [])]<|.n [.mkl (some 4) 1 [.s [],.s [84,97,108,107],.s [85,115,101,114],.s [84,101,109,112,108,97,116,101],.s [67,97,116,101,103,111,114,121],.s [80,114,111,106,101,99,116]],.m 3 4]<|.seq (.seq (.ops false [⟨none,[.m 5 0,.bi 6 .lss 5 0,.m 7 6]⟩,⟨some (7,false),[.m 8 0,.m 9 3,.ll 10 9,.b 11 .geq 8 10]⟩,⟨none,[.pt 12 7 11]⟩])<|.cond (.t 12) (.n [.mov (some 2) (.s [])]<|.ret) (.skip))<|.n [.m 13 3,.m 14 0,.ia 15 1 13 14,.l 16 15,.m 2 16]<|.ret
abbrev aT1(P:Program)(F T:Nat->Nat):Prop:=Fn P (F 205) 17 [(2,none)] (c205 F T)
def c222(F T:Nat->Nat):C:=.n [.mov (some 4) (.i 0)]<|.seq (.n [.m 6 0,.ll 7 6,.mov (some 8) (.i 0)]<|.block 0<|.loop<|.n [.b 9 .lss 8 7]<|.seq (.cond (.t 9) (.skip) (.exit 0))<|.seq (.block 1<|.n [.m 10 8,.m 5 10]<|.n [.m 11 1,.m 12 0,.m 13 5,.ia 14 1 12 13,.l 15 14,.b 16 .eql 11 15]<|.cond (.t 16) (.n [.m 17 5,.m 4 17]<|.ret) (.skip))<|.o [.bi 18 .add 8 1,.m 8 18])<|.n [.mov (some 4) (.k (.int .i64 (-1)))]<|.ret
abbrev bGt(P:Program)(F T:Nat->Nat):Prop:=Fn P (F 222) 19 [(4,none)] (c222 F T)
def c201(F T:Nat->Nat):C:=.n [.mov (some 2) (.k .nils)]<|.n [.mkv 5 (T 21) 1 [.s []],.m 3 5]<|.seq (.n [.mov (some 4) (.i 0)]<|.block 0<|.loop<|.seq (.n [.m 6 4,.m 7 0,.ls 8 7,.b 9 .lss 6 8]<|.cond (.t 9) (.skip) (.exit 0))<|.seq (.block 1<|.n [.m 12 0,.m 13 4,.ix 14 12 13,.bin (some 15) .eql (.t 14) (.k (.int .u8 47))]<|.cond (.t 15) (.o [.m 16 3,.mkl (some 17) 1 [.s []],.app 18 (T 21) 1 (.t 16) (.t 17),.m 3 18]) (.p [.m 19 3,.m 20 3,.ll 21 20,.bi 22 .sub 21 1,.m 23 3,.m 24 3,.ll 25 24,.bi 26 .sub 25 1,.ia 27 1 23 26,.l 28 27,.m 29 0,.m 30 4,.m 31 4,.bi 32 .add 31 1,.slcS (some 33) (.t 29) (some (.t 30)) (some (.t 32)),.b 34 .add 28 33,.ia 35 1 19 22,.store 1 (.t 35) (.t 34)]))<|.o [.m 10 4,.bi 11 .add 10 1,.m 4 11])<|.n [.m 36 3,.m 2 36]<|.ret
abbrev bAu(P:Program)(F T:Nat->Nat):Prop:=Fn P (F 201) 37 [(2,none)] (c201 F T)
end Go.Ab
