import Derived.Test.YtikmbicdjpkipaaGreatDoorAbY1
import Derived.Test.YtikmbicdjpkipaaGreatDoorAbC1
import Derived.Test.YtikmbicdjpkipaaGreatDoorAbM6
import Derived.Lib.Replace
import Derived.Lib.IndexAny
import Derived.Lib.FieldsP
import Derived.Test.YtikmbicdjpkipaaGreatDoorAbE4
import Derived.Test.YtikmbicdjpkipaaGreatDoorAbL2
open Nat renaming le_refl->zz,ble->wY,ble_eq->wU
open Bool renaming and_eq_true->zc
open ByteArray renaming size->zC
open Option.some renaming injEq->za
set_option linter.unusedSimpArgs false
set_option linter.unusedVariables false
namespace Go.Ab
open Go.Lib
open Go.RowKit
variable {P:Program} {σ:Sy}
def BiOk(P:Program)(σ:Sy)(f:Nat)(g:List V->Option V):Prop:=∀ar r,g ar=some r->PTr P f (ar.map (V.cz σ)) (r.cz σ)
def pbT:List (Nat×(List V->Option V))->Tr (List V->Option V)
 | []=>.leaf
 | x::r=>Tr.set 12 (pbT r) x.1 (some x.2)
def pbG(t:Tr (List V->Option V)):Pc:=λf ar=>match t.get f with
 | some g=>g ar
 | none=>none
theorem aY0:∀{l:List (Nat×(List V->Option V))} {f:Nat} {e:List V->Option V},(pbT l).get f=some e->(f,e)∈l
 | x::r,f,e,h=>by
   rw[pbT,Tr.get_set]at h;split at h
   .grind
   .exact List.mem_cons_of_mem _ (aY0 h)
theorem bO5{l:List (Nat×(List V->Option V))}(h:∀x,x∈l->BiOk P σ x.1 x.2):aRw P σ (pbG (pbT l)):=by
 intro f ar r e;unfold pbG at e;split at e
 .rename_i g q;exact h _ (aY0 q) _ _ e
 grind
def biOr(a b:List V->Option V):List V->Option V:=λl=>match a l with
 | some r=>some r
 | none=>b l
theorem bHn{f:Nat}{a b:List V->Option V}(ha:BiOk P σ f a)(hb:BiOk P σ f b):BiOk P σ f (biOr a b):=by
 intro ar r h;unfold biOr at h;split at h
 .rename_i e;cases h;exact ha _ _ e
 .exact hb _ _ h
theorem bRq{f:Nat}{a b:List UInt8}{r:V}{X:Value}(h:∀(D:Nat->Prop) (w:World),GIn P D w ->
 Calls P f #[.string ⟨a.toArray⟩,.string ⟨b.toArray⟩] w λe w'=>e=.returned X∧Below w.heap.size w w') (hr:∀D w,Rep (λ_=>none) D w r X):PTr P f [.str a,.str b] r:=by
 intro D w vs hD hg hl hr';obtain⟨u,v,rfl,hu,hv⟩:=vs2 hl hr';cases hu;cases hv
 refine(h D w hg).mono ?_;grind
def biSS(ok:List UInt8->List UInt8->Bool)(g:List UInt8->List UInt8->V):List V->Option V
 | [.str a,.str b]=>if ok a b=true then some (g a b)else none
 | _=>none
theorem bG1{f:Nat}{ok:List UInt8->List UInt8->Bool}{g:List UInt8->List UInt8->V}(h:∀a b,ok a b=true->PTr P f [.str a,.str b] (g a b))(hp:∀a b,(g a b).pl=true):BiOk P σ f (biSS ok g):=by
 intro ar r e;unfold biSS at e;split at e
 .rename_i a b;split at e
  .rename_i q;cases e
   rw[bB2 _ (hp a b)];exact h a b q
  grind
 grind
theorem aRy{w w':World}(h:∃n,w'=w.drewN n):Below w.heap.size w w':=by
 obtain⟨n,rfl⟩:=h;exact⟨rfl,rfl,rfl,zz _,λ_ _=>rfl⟩
def okS(a b:List UInt8):Bool:=wY a.length 100000&&wY b.length 100
theorem bN2{f x:Nat}(g:gint P x)(h:∀(s sep:ByteArray) (m:Int) (w:World),s.size<4294967281->w.cell? ⟨x,0,none⟩=some (.int .i64 m) ->
 Calls P f #[.string s,.string sep] w λe w'=>e=.returned (.tuple #[.string ⟨(cut s.data.toList sep.data.toList).1.toArray⟩,.string ⟨(cut s.data.toList sep.data.toList).2.1.toArray⟩,.bool (cut s.data.toList sep.data.toList).2.2])∧∃n,w'=w.drewN n) :
 BiOk P σ f (biSS okS λa b=>.tup [.str (cut a b).1,.str (cut a b).2.1,.bool (cut a b).2.2]):=by
 refine bG1 (λa b q=>?_) λ_ _=>rfl;simp only[okS,zc,wU]at q;have hl:(cut a b).1.length<=a.length∧(cut a b).2.1.length<=a.length:=by unfold cut;grind
 refine bRq (X:=.tuple #[.string ⟨(cut a b).1.toArray⟩,.string ⟨(cut a b).2.1.toArray⟩,.bool (cut a b).2.2]) (λ_ w hg=>?_) λD w=>?_
 .obtain⟨m,hm⟩:=hg.1 x g;refine(h ⟨a.toArray⟩ ⟨b.toArray⟩ m w (by simp[zC];omega) hm).mono ?_;rintro e w' ⟨rfl,hn⟩;exact⟨rfl,aRy hn⟩
 .refine .tup _ _ rfl λi c hi=>?_
  match i,hi with
  | 0,hi=>simp at hi;subst hi;exact .str _ (by omega)
  | 1,hi=>simp at hi;subst hi;exact .str _ (by omega)
  | 2,hi=>simp at hi;subst hi;exact .bool _
def biIB:List V->Option V
 | [.str a,.int .u8 c]=>some (.int .i64 (indexByte a c.toNat.toUInt8))
 | _=>none
theorem bQy{f:Nat}(h:∀(s:ByteArray) (c:Int) (w:World),Calls P f #[.string s,.int .u8 c] w λe w'=>e=.returned (.int .i64 (indexByte s.data.toList c.toNat.toUInt8))∧w'=w):BiOk P σ f biIB:=by
 intro ar r e;unfold biIB at e;split at e
 .rename_i a c;cases e
  intro D w vs hD hg hl hr;obtain⟨u,v,rfl,hu,hv⟩:=vs2 hl hr;cases hu;cases hv
  refine(h ⟨a.toArray⟩ c w).mono ?_;rintro e w' ⟨rfl,rfl⟩;exact⟨_,rfl,Below.refl _ _,.int _ _⟩
 grind
theorem vs3{G:Ghost}{D:Nat->Prop}{w:World}{x y z:V}{vs:Array Value}(hl:[x,y,z].length=vs.size)(hr:∀i c,[x,y,z][i]?=some c->Rep G D w c (vs.getD i undef)):∃u v t,vs=#[u,v,t]∧Rep G D w x u∧Rep G D w y v∧Rep G D w z t:=by
 match vs,hl with
 | ⟨[u,v,t]⟩,_=>exact⟨u,v,t,rfl,hr 0 x rfl,hr 1 y rfl,hr 2 z rfl⟩
def aXw:List V->Option V
 | [.str a,.str b]=>if decide (b=[47])&&wY a.length 100000 then some (.lst 1 ((aAj a).map .str))else none
 | _=>none
def bAf:List V->Option V
 | [.str a,.str b]=>if decide (b=[10])&&wY a.length 100000 then some (.lst 1 ((lnF a).map .str))else none
 | _=>none
theorem aY4(l:List (List UInt8)):(V.lst 1 (l.map .str)).cz σ=.lst 1 (l.map .str):=by
 rw[aHo,List.map_map];rfl
theorem aP4{f x ty:Nat}(g:gint P x)(h1:∀(s sep:ByteArray) (m:Int) (w:World),s.size<4294967281->w.cell? ⟨x,0,none⟩=some (.int .i64 m)->1<=sep.size ->
 Calls P f #[.string s,.string sep] w λe w'=>e=.returned (.slice (some ⟨w.heap.size,0,none⟩) (countB s sep+1) (countB s sep+1))∧w'=w.alloc (.cells ((splitB sep 0 (countB s sep) s).map Value.string).toArray ty))
 (c:UInt8) (s:List UInt8) (l0:List (List UInt8)) (hs:s.length<=100000) (hsp:split s [c]=l0) (hlen:∀q,q∈l0->q.length<2^63):PTr P f [.str s,.str [c]] (.lst 1 (l0.map .str)):=by
 intro D w vs hD hg hl hr;obtain⟨u,v,rfl,hu,hv⟩:=vs2 hl hr;cases hu;cases hv
 obtain⟨m,hm⟩:=hg.1 x g;refine(h1 ⟨s.toArray⟩ ⟨([c]:List UInt8).toArray⟩ m w (by simp[zC];omega) hm (by simp[zC])).mono ?_;rintro e w' ⟨rfl,rfl⟩;have hd:=splitB_data ⟨([c]:List UInt8).toArray⟩ 0 (countB ⟨s.toArray⟩ ⟨([c]:List UInt8).toArray⟩) ⟨s.toArray⟩;have hall:=splitB_all ⟨([c]:List UInt8).toArray⟩ (by simp[zC]) 0 _ ⟨s.toArray⟩ rfl;have hd2:(splitB ⟨([c]:List UInt8).toArray⟩ 0 (countB ⟨s.toArray⟩ ⟨([c]:List UInt8).toArray⟩) ⟨s.toArray⟩).map (·.data.toList)=l0:=by rw[hd];exact hsp
 generalize splitB ⟨([c]:List UInt8).toArray⟩ 0 (countB ⟨s.toArray⟩ ⟨([c]:List UInt8).toArray⟩) ⟨s.toArray⟩=l at *;have hl2:l.length=l0.length:=by grind
 have hmap:l.map Value.string=l0.map λq=>Value.string ⟨q.toArray⟩:=by rw[<-hd2,List.map_map];rfl
 rw[hmap];have hcn:=count_le s [c];have hcn2:countB ⟨s.toArray⟩ ⟨([c]:List UInt8).toArray⟩=count s [c]:=rfl;exact⟨_,rfl,aBr w _,bAk hD l0 _ ty (by omega) hlen (by omega)⟩
theorem bMs{f x ty:Nat}(g:gint P x)(h1:∀(s sep:ByteArray) (m:Int) (w:World),s.size<4294967281->w.cell? ⟨x,0,none⟩=some (.int .i64 m)->1<=sep.size ->
 Calls P f #[.string s,.string sep] w λe w'=>e=.returned (.slice (some ⟨w.heap.size,0,none⟩) (countB s sep+1) (countB s sep+1))∧w'=w.alloc (.cells ((splitB sep 0 (countB s sep) s).map Value.string).toArray ty)):BiOk P σ f (biOr aXw bAf):=by
 refine bHn (λar r e=>?_) λar r e=>?_
 .unfold aXw at e;split at e
  .rename_i a b;split at e
   .rename_i q;cases e
    simp only[zc,wU,decide_eq_true_eq]at q;obtain⟨rfl,q⟩:=q;rw[aY4];exact aP4 g h1 47 a _ q (aGy a.length a (zz _)) λp hp=>by have:=aD6 p hp;omega
   grind
  grind
 .unfold bAf at e;split at e
  .rename_i a b;split at e
   .rename_i q;cases e
    simp only[zc,wU,decide_eq_true_eq]at q;obtain⟨rfl,q⟩:=q;rw[aY4];exact aP4 g h1 10 a _ q (aTw a.length a (zz _)) λp hp=>by have h2:=bAc a;have:=aT8 hp;omega
   grind
  grind
end Go.Ab
namespace Go.Ab
def c385(F T:Nat->Nat):C:=.n [.mov (some 2) (.s [])]<|.n [.m 5 0,.e 6 38 (F 171) [.t 5,.s [47]],.m 3 6]<|.seq (.n [.m 7 3,.ll 8 7,.mov (some 9) (.i 0)]<|.block 0<|.loop<|.n [.b 10 .lss 9 8]<|.seq (.cond (.t 10) (.skip) (.exit 0))<|.seq (.block 1<|.n [.m 11 9,.m 4 11]<|.seq (.n [.m 12 4,.bi 13 .gtr 12 0]<|.cond (.t 13) (.o [.m 14 3,.m 15 4,.m 16 3,.m 17 4,.ia 18 1 16 17,.l 19 18,.c 20 (F 144) [.t 19,.s [32]],.ia 21 1 14 15,.store 1 (.t 21) (.t 20)]) (.skip))<|.n [.m 22 4,.m 23 3,.ll 24 23,.bi 25 .sub 24 1,.b 26 .lss 22 25]<|.cond (.t 26) (.o [.m 27 3,.m 28 4,.m 29 3,.m 30 4,.ia 31 1 29 30,.l 32 31,.c 33 (F 143) [.t 32,.s [32]],.ia 34 1 27 28,.store 1 (.t 34) (.t 33)]) (.skip))<|.o [.bi 35 .add 9 1,.m 9 35])<|.n [.m 36 3,.call (some 37) false (F 289) [.t 36,.s [47]],.m 2 37]<|.ret
abbrev bKi(P:Program)(F T:Nat->Nat):Prop:=Fn P (F 385) 38 [(2,none)] (c385 F T)
open Go.Lib Go.RowKit
variable {P:Program}
theorem vs2G{G:Ghost}{vs:Array Value}{D:Nat->Prop}{w:World}{a b:V}(hl:[a,b].length=vs.size)
 (h:∀i x,[a,b][i]?=some x->Rep G D w x (vs.getD i undef)):∃u v,vs=#[u,v]∧Rep G D w a u∧Rep G D w b v:=by
 refine⟨vs.getD 0 undef,vs.getD 1 undef,?_,h 0 a rfl,h 1 b rfl⟩;apply Array.ext
 .grind
 .intro i h1 h2
  match i with
  | 0=>simp_all
  | 1=>simp_all
  | k+2=>grind
theorem Hp.newBlk{D:Nat->Prop}{L:Heap}{nx:Nat}{G:Ghost}{w w':World}(hh:Hp P D 0 ⟨λ_=>.junk,L,nx⟩ G w)(hb:Below w.heap.size w w')(b:Blk)(gb:GB)
 (hocc:∀x,Occ gb b x->w.heap.size<=x∧x<w'.heap.size)
 (hok:∀G' D',(∀x v,Rep G (Dp D L G) w x v->Rep G' D' w' x v)->BlkOk G' D' w' gb b) :
 Hp P D 0 ⟨λ_=>.junk,upd L nx (some b),nx+1⟩ (upd G nx (some gb)) w'∧Nxt L G w (upd L nx (some b)) (upd G nx (some gb)) w':=by
 have hid:G nx=none:=hh.fin nx (zz _);have hLid:L nx=none:=by
  cases h:L nx with
  | none=>rfl
  | some b'=>obtain⟨g,h1,_⟩:=hh.blk nx b' h;grind
 have hx:Nxt L G w (upd L nx (some b)) (upd G nx (some gb)) w':=by
  refine⟨aT5 hid gb,⟨hb.size,λx h _=>hb.block x h⟩,?_,hb.os,hb.tape,hb.output⟩;rintro x hx ⟨i,bi,gi,h1,h2,h3⟩;by_cases e:i=nx
  .subst e;simp only[aAe,za]at h1 h2;grind
  .simp only[aAc _ _ _ _ e]at h1 h2;exact⟨i,bi,gi,h1,h2,h3⟩
 refine⟨?_,hx⟩;refine hh.turn (·=nx) hx (λi hi=>(aAc _ _ _ _ (show i≠nx from λe=>by grind)).trans (hh.fin i (by grind))) (λi bi hl hne=>?_) (λi bi gi x hl hne hgi ho=>?_) (λi bi gi _ hne hgi=>by rw[aAc _ _ _ _ hne];omega) (λi j hi hj=>hi.trans hj.symm) (λi bi hl hi=>?_)
 .simpa only[aAc _ _ _ _ hne]using hl
 .simp only[aAc _ _ _ _ hne]at hl;exact hb.block x (hh.away x ⟨i,bi,gi,hl,hgi,ho⟩).1
 .subst hi;simp only[aAe,za]at hl;subst hl;refine⟨gb,aAe _ _ _,hok _ _ λx v hr=>hx.rep hr,λx ho=>?_⟩;have h1:=hocc x ho;refine⟨h1.2,λhd=>?_,λi2 b2 g2 hl2 hn2 hg2 ho2=>?_⟩
  .have:=hh.dlt x hd;omega
  .simp only[aAc _ _ _ _ hn2]at hl2;have:=(hh.away x ⟨i2,b2,g2,hl2,hg2,ho2⟩).1;omega
theorem aT4{f x ty:Nat}(g:gint P x)(h1:∀(s sep:ByteArray) (m:Int) (w:World),s.size<4294967281->w.cell? ⟨x,0,none⟩=some (.int .i64 m)->1<=sep.size ->
 Calls P f #[.string s,.string sep] w λe w'=>e=.returned (.slice (some ⟨w.heap.size,0,none⟩) (countB s sep+1) (countB s sep+1))∧w'=w.alloc (.cells ((splitB sep 0 (countB s sep) s).map Value.string).toArray ty))
 (c:UInt8) (s:List UInt8) (l0:List (List UInt8)) (hs:s.length<=100000) (hsp:split s [c]=l0) (hlen:∀q,q∈l0->q.length<2^63) (L:Heap) (nx:Nat) :
 ECall P f [.str s,.str [c]] L nx λr L' nx'=>r=.own nx 1 0 l0.length∧L'=upd L nx (some (.vec ty 1 (l0.map .str)))∧nx'=nx+1:=by
 refine⟨⟨_,_,_,rfl,rfl,rfl⟩,λD G w vs hh hl hr=>?_⟩;obtain⟨u,v,rfl,hu,hv⟩:=vs2G hl hr;cases hu;cases hv
 obtain⟨_,_,m,hm⟩:=hh.gl.1 x g;refine(h1 ⟨s.toArray⟩ ⟨([c]:List UInt8).toArray⟩ m w (by simp[zC];omega) hm (by simp[zC])).mono ?_;rintro e w' ⟨rfl,rfl⟩;have hd:=splitB_data ⟨([c]:List UInt8).toArray⟩ 0 (countB ⟨s.toArray⟩ ⟨([c]:List UInt8).toArray⟩) ⟨s.toArray⟩;have hall:=splitB_all ⟨([c]:List UInt8).toArray⟩ (by simp[zC]) 0 _ ⟨s.toArray⟩ rfl;have hd2:(splitB ⟨([c]:List UInt8).toArray⟩ 0 (countB ⟨s.toArray⟩ ⟨([c]:List UInt8).toArray⟩) ⟨s.toArray⟩).map (·.data.toList)=l0:=by rw[hd];exact hsp
 generalize splitB ⟨([c]:List UInt8).toArray⟩ 0 (countB ⟨s.toArray⟩ ⟨([c]:List UInt8).toArray⟩) ⟨s.toArray⟩=l at *;have hl2:l.length=l0.length:=by grind
 have hmap:l.map Value.string=l0.map λq=>Value.string ⟨q.toArray⟩:=by rw[<-hd2,List.map_map];rfl
 rw[hmap];have hcn:=count_le s [c];have hcn2:countB ⟨s.toArray⟩ ⟨([c]:List UInt8).toArray⟩=count s [c]:=rfl;have hall2:countB ⟨s.toArray⟩ ⟨([c]:List UInt8).toArray⟩+1=l0.length:=by omega
 rw[hall2];have hn63:l0.length<2^63:=by omega
 have hcell:∀(i:Nat) (q:List UInt8),l0[i]?=some q->((l0.map λq=>Value.string ⟨q.toArray⟩).toArray).getD i undef=.string ⟨q.toArray⟩:=by simp_all
 obtain⟨g1,g2⟩:=hh.newBlk (aBr w (.cells ((l0.map λq=>Value.string ⟨q.toArray⟩).toArray) ty)) (.vec ty 1 (l0.map .str)) ⟨w.heap.size,0,l0.length,1,0⟩ (λx hx=>by simp only[Occ]at hx;simp_all) (λG' D' hm=>by
  refine⟨rfl,by simp,by omega,λe' he'=>?_,λ_=>⟨_,_,_,aA4 _ _,⟨by simp,rfl⟩,⟨λi _=>(by simp),λh=>absurd rfl h⟩,λi j x hx=>?_⟩⟩
  .obtain⟨b,_,rfl⟩:=List.mem_map.1 he';rfl
  .cases hb:l0[i]? with
   | none=>grind
   | some b =>
     simp only[List.getElem?_map,hb,Option.map_some,Option.bind_some,V.cells]at hx;cases j with
     | zero=>simp only[List.getElem?_cons_zero,za]at hx;subst hx;rw[show(⟨w.heap.size,0,l0.length,1,0⟩:GB).off+i*1+0=i from by simp,hcell i b hb];exact .str _ (hlen b (List.mem_of_getElem? hb))
     | succ j=>grind)
 exact⟨_,_,_,_,_,rfl,⟨rfl,rfl,rfl⟩,g1,Nat.le_succ _,g2,.own _ _ _ _ ⟨w.heap.size,0,l0.length,1,0⟩ _ _ (aAe _ _ _) rfl (zz _) rfl (by omega) (λ_=>by simp)⟩
end Go.Ab
