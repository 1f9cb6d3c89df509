import Derived.Calls
import GoSem.Claims
import Derived.Below
import Derived.KernelRfl
import Derived.Laws.Rows
import Derived.Laws.AppendOwn
import Derived.Laws.Strings
import Derived.Laws.Small
import Derived.Laws.StructEq
import Derived.Lib.Strings
import Derived.Laws.Tables
open Nat renaming le_refl->zz,lt_of_lt_of_le->yq,add_assoc->xA
open Bool renaming and_eq_true->zc,false_eq_true->zK
open List renaming all_eq_true->zx,range->zU
open Option.some renaming inj->zq,injEq->za
open Option renaming map_eq_some_iff->zm,bind_eq_some_iff->yN,isSome_iff_exists->yt
open Array renaming getD_eq_getD_getElem?->zo
set_option linter.unusedSimpArgs false
set_option linter.unusedVariables false
namespace Go.Ab
inductive V where
 | junk
 | bool (b:Bool)
 | int (k:IntKind) (n:Int)
 | str (s:List UInt8)
 | nilp
 | nils
 | ptr (id off:Nat)
 | eptr (id i j:Nat)
 | cptr (cs:List V)
 | lst (sz:Nat) (es:List V)
 | own (id sz off len:Nat)
 | agg (cs:List V)
 | tup (vs:List V)
 | fn (f:Nat) (cs:List V)
 | map (id:Nat)
 | nilm
 | raw (v:Value)
instance:Inhabited V:=⟨.junk⟩
def V.cells:V->List V
 | .agg cs=>cs
 | v=>[v]
def V.one:V->Bool
 | .junk=>false
 | .agg _=>false
 | .tup _=>false
 | .raw v=>v.oneCell'
 | _=>true
def V.ncells:V->Option Nat
 | .agg cs=>if cs.all V.one then some cs.length else none
 | v=>if v.one then some 1 else none
structure GB where
 blk:Nat
 off:Nat
 cap:Nat
 sz:Nat
 aux:Nat
abbrev Ghost:=Nat->Option GB
def aDk(w:World)(b o:Nat):Value:=(w.cell? ⟨b,o,none⟩).getD undef
inductive Rep(G:Ghost)(D:Nat->Prop)(w:World):V->Value->Prop
 | junk (v:Value):Rep G D w .junk v
 | bool (b:Bool):Rep G D w (.bool b) (.bool b)
 | int (k:IntKind) (n:Int):Rep G D w (.int k n) (.int k n)
 | str (s:List UInt8) (h:s.length<2^63):Rep G D w (.str s) (.string ⟨s.toArray⟩)
 | nilp:Rep G D w .nilp (.pointer none)
 | nils:Rep G D w .nils (.slice none 0 0)
 | ptr (id off:Nat) (g:GB) (h:G id=some g):Rep G D w (.ptr id off) (.pointer (some ⟨g.blk,g.off+off,none⟩))
 | eptr (id i j:Nat) (g:GB) (h:G id=some g):Rep G D w (.eptr id i j) (.pointer (some ⟨g.blk,g.off+i*g.sz+j,none⟩))
 | cptr (cs:List V) (b o:Nat) (hb:b<w.heap.size) (hd:¬D b)
  (hs:∀j c,cs[j]?=some c->(w.cell? ⟨b,o+j,none⟩).isSome=true)
  (hr:∀j c,cs[j]?=some c->Rep G D w c (aDk w b (o+j))):Rep G D w (.cptr cs) (.pointer (some ⟨b,o,none⟩))
 | lst (sz:Nat) (es:List V) (a:Option Addr) (cap b o:Nat) (hc:es.length<=cap) (hl:cap<2^63)
  (ha:0<es.length->a=some ⟨b,o,none⟩∧b<w.heap.size∧¬D b)
  (hz:∀e,e∈es->e.ncells=some sz)
  (hs:∀i j c,(es[i]?.bind λe=>e.cells[j]?)=some c->(w.cell? ⟨b,o+i*sz+j,none⟩).isSome=true)
  (hr:∀i j c,(es[i]?.bind λe=>e.cells[j]?)=some c->Rep G D w c (aDk w b (o+i*sz+j))) :
  Rep G D w (.lst sz es) (.slice a es.length cap)
 | own (id sz off len:Nat) (g:GB) (a:Option Addr) (cap:Nat) (h:G id=some g) (hz:g.sz=sz) (hc:len<=cap) (hg:cap+off=g.cap) (hl:g.cap<2^63)
  (ha:0<cap->a=some ⟨g.blk,g.off+off*sz,none⟩):Rep G D w (.own id sz off len) (.slice a len cap)
 | agg (cs:List V) (vs:Array Value) (hn:cs.length=vs.size) (hr:∀i c,cs[i]?=some c->Rep G D w c (vs.getD i undef)):Rep G D w (.agg cs) (.agg vs)
 | tup (cs:List V) (vs:Array Value) (hn:cs.length=vs.size) (hr:∀i c,cs[i]?=some c->Rep G D w c (vs.getD i undef)):Rep G D w (.tup cs) (.tuple vs)
 | fn (f:Nat) (cs:List V) (vs:Array Value) (hn:cs.length=vs.size) (hr:∀i c,cs[i]?=some c->Rep G D w c (vs.getD i undef)):Rep G D w (.fn f cs) (.func (.func f) #[] vs)
 | map (id:Nat) (g:GB) (h:G id=some g):Rep G D w (.map id) (.map (some g.blk))
 | nilm:Rep G D w .nilm (.map none)
 | raw (v:Value):Rep G D w (.raw v) v
def Ghost.le(G G':Ghost):Prop:=∀id g,G id=some g->∃x,G' id=some { g with aux:=x }
theorem Ghost.le_refl(G:Ghost):G.le G:=λ_ g h=>⟨g.aux,h⟩
theorem Ghost.le_trans{A B C:Ghost}(h:A.le B)(k:B.le C):A.le C:=λid g e=>by
 obtain⟨x,hx⟩:=h id g e;obtain⟨y,hy⟩:=k id _ hx;grind
def Same(O:Nat->Prop)(w w':World):Prop:=w.heap.size<=w'.heap.size∧∀b,b<w.heap.size->¬O b->w'.heap[b]?=w.heap[b]?
theorem Same.refl(O:Nat->Prop)(w:World):Same O w w:=⟨zz _,λ_ _ _=>rfl⟩
theorem Same.mono{O O':Nat->Prop}{w w':World}(h:Same O w w')(ho:∀b,b<w.heap.size->O b->O' b):Same O' w w':=
 ⟨h.1,λb hb hn=>h.2 b hb λhx=>hn (ho b hb hx)⟩
theorem aF2{w w':World}{b o:Nat}(h:w'.heap[b]?=w.heap[b]?):w'.cell? ⟨b,o,none⟩=w.cell? ⟨b,o,none⟩:=by
 simp[World.cell?,h]
theorem aLq{w w':World}{b o:Nat}(h:w'.heap[b]?=w.heap[b]?):aDk w' b o=aDk w b o:=by
 simp[aDk,aF2 h]
theorem Rep.mono{G G':Ghost}{D D':Nat->Prop}{w w':World}(hG:G.le G')(hD:∀b,b<w.heap.size->¬D b->¬D' b)
 (hw:Same D w w') {x:V} {v:Value} (h:Rep G D w x v):Rep G' D' w' x v:=by
 induction h with
 | junk v=>exact .junk v
 | bool b=>exact .bool b
 | int k n=>exact .int k n
 | str s h=>exact .str s h
 | nilp=>exact .nilp
 | nils=>exact .nils
 | ptr id off g h=>obtain⟨x,hx⟩:=hG _ _ h;exact .ptr id off { g with aux:=x } hx
 | eptr id i j g h=>obtain⟨x,hx⟩:=hG _ _ h;exact .eptr id i j { g with aux:=x } hx
 | cptr cs b o hb hd hs hr ih =>
   have e:=hw.2 b hb hd;refine .cptr cs b o (yq hb hw.1) (hD b hb hd) (λj c hc=>?_) (λj c hc=>?_)
   .rw[aF2 e];grind
   .rw[aLq e];grind
 | lst sz es a cap b o hc hl ha hz hs hr ih =>
   refine .lst sz es a cap b o hc hl (λh0=>?_) hz (λi j c hx=>?_) (λi j c hx=>?_)
   .obtain⟨h1,h2,h3⟩:=ha h0;exact⟨h1,yq h2 hw.1,hD b h2 h3⟩
   .have h0:0<es.length:=by
     grind
    obtain⟨h1,h2,h3⟩:=ha h0;rw[aF2 (hw.2 b h2 h3)];grind
   .have h0:0<es.length:=by
     grind
    obtain⟨h1,h2,h3⟩:=ha h0;rw[aLq (hw.2 b h2 h3)];grind
 | own id sz off len g a cap h hz hc hg hl ha=>obtain⟨x,hx⟩:=hG _ _ h;exact .own id sz off len { g with aux:=x } a cap hx hz hc hg hl ha
 | agg cs vs hn hr ih=>exact .agg cs vs hn ih
 | tup cs vs hn hr ih=>exact .tup cs vs hn ih
 | fn f cs vs hn hr ih=>exact .fn f cs vs hn ih
 | map id g h=>obtain⟨x,hx⟩:=hG _ _ h;exact .map id { g with aux:=x } hx
 | nilm=>exact .nilm
 | raw v=>exact .raw v
mutual
def V.imm:V->Bool
 | .junk=>true
 | .bool _=>true
 | .int _ _=>true
 | .str _=>true
 | .nilp=>true
 | .nils=>true
 | .ptr _ _=>false
 | .eptr _ _ _=>false
 | .cptr cs=>V.imms cs
 | .lst _ es=>V.imms es
 | .own _ _ _ _=>false
 | .agg cs=>V.imms cs
 | .tup cs=>V.imms cs
 | .fn _ cs=>V.imms cs
 | .map _=>false
 | .nilm=>true
 | .raw _=>true
def V.imms:List V->Bool
 | []=>true
 | x::r=>x.imm&&V.imms r
end
theorem aBh{l:List V}(h:V.imms l=true){x:V}(hx:x∈l):x.imm=true:=by
 induction l with
 | nil=>cases hx
 | cons y r ih=>simp only[V.imms,zc]at h;grind
theorem aSc{l:List V}(h:∀x,x∈l->x.imm=true):V.imms l=true:=by
 induction l with
 | nil=>rfl
 | cons y r ih=>simp only[V.imms,zc];grind
theorem aGv(a b:List V):V.imms (a++b)=(V.imms a&&V.imms b):=by
 induction a with
 | nil=>rfl
 | cons x r ih=>simp[V.imms,ih,Bool.and_assoc]
theorem aA2{α:Type}(f:α->V)(l:List α)(h:∀a,(f a).imm=true):V.imms (l.map f)=true:=by
 induction l with
 | nil=>rfl
 | cons y r ih=>simp[V.imms,h,ih]
theorem bAv{x:V}(h:x.imm=true){c:V}(hc:c∈x.cells):c.imm=true:=by
 cases x<;>simp only[V.cells,List.mem_singleton]at hc<;>first
  | (subst hc;exact h)
  | (simp only[V.imm]at h;exact aBh h hc)
theorem mem_of_getElem?{l:List V}{i:Nat}{c:V}(h:l[i]?=some c):c∈l:=List.mem_of_getElem? h
theorem Rep.free{G:Ghost}{D:Nat->Prop}{w:World}{x:V}{v:Value}(h:Rep G D w x v)(hi:x.imm=true)(G':Ghost):Rep G' D w x v:=by
 induction h with
 | junk v=>exact .junk v
 | bool b=>exact .bool b
 | int k n=>exact .int k n
 | str s h=>exact .str s h
 | nilp=>exact .nilp
 | nils=>exact .nils
 | ptr id off g h=>simp[V.imm]at hi
 | eptr id i j g h=>simp[V.imm]at hi
 | cptr cs b o hb hd hs hr ih=>simp only[V.imm]at hi;exact .cptr cs b o hb hd hs λj c hc=>ih j c hc (aBh hi (mem_of_getElem? hc))
 | lst sz es a cap b o hc hl ha hz hs hr ih =>
   simp only[V.imm]at hi;refine .lst sz es a cap b o hc hl ha hz hs λi j c hx=>ih i j c hx ?_;cases he:es[i]? with
   | none=>grind
   | some e=>simp only[he,Option.bind_some]at hx;exact bAv (aBh hi (mem_of_getElem? he)) (mem_of_getElem? hx)
 | own id sz off len g a cap h hz hc hg hl ha=>simp[V.imm]at hi
 | agg cs vs hn hr ih=>simp only[V.imm]at hi;exact .agg cs vs hn λi c hc=>ih i c hc (aBh hi (mem_of_getElem? hc))
 | tup cs vs hn hr ih=>simp only[V.imm]at hi;exact .tup cs vs hn λi c hc=>ih i c hc (aBh hi (mem_of_getElem? hc))
 | fn f cs vs hn hr ih=>simp only[V.imm]at hi;exact .fn f cs vs hn λi c hc=>ih i c hc (aBh hi (mem_of_getElem? hc))
 | map id g h=>simp[V.imm]at hi
 | nilm=>exact .nilm
 | raw v=>exact .raw v
def V.flat1:V->Bool
 | .bool _|.int _ _|.str _|.nilp|.nils|.nilm=>true
 | _=>false
def V.flat:V->Bool
 | .tup cs=>cs.all V.flat1
 | .agg cs=>cs.all V.flat1
 | v=>v.flat1
theorem Rep.flat1{G:Ghost}{D:Nat->Prop}{w:World}{x:V}{v:Value}(h:Rep G D w x v)(hf:x.flat1=true)(G':Ghost)(D':Nat->Prop)(w':World):Rep G' D' w' x v:=by
 cases h<;>simp[V.flat1]at hf
 .exact .bool _
 .exact .int _ _
 .rename_i h;exact .str _ h
 .exact .nilp
 .exact .nils
 .exact .nilm
theorem Rep.flat{G:Ghost}{D:Nat->Prop}{w:World}{x:V}{v:Value}(h:Rep G D w x v)(hf:x.flat=true)(G':Ghost)(D':Nat->Prop)(w':World):Rep G' D' w' x v:=by
 cases h
 case tup cs vs hn hr=>simp only[V.flat]at hf;exact .tup _ _ hn λi c hc=>Rep.flat1 (hr i c hc) (zx.1 hf c (mem_of_getElem? hc)) G' D' w'
 case agg cs vs hn hr=>simp only[V.flat]at hf;exact .agg _ _ hn λi c hc=>Rep.flat1 (hr i c hc) (zx.1 hf c (mem_of_getElem? hc)) G' D' w'
 all_goals simp[V.flat,V.flat1]at hf
 .exact .bool _
 .exact .int _ _
 .rename_i h;exact .str _ h
 .exact .nilp
 .exact .nils
 .exact .nilm
inductive Blk where
 | box (ty:Nat) (cs:List V)
 | vec (ty sz:Nat) (es:List V)
 | map (c:Nat) (es:List (V×V×Nat))
 | bld (tb ty:Nat) (s:List UInt8)
abbrev Heap:=Nat->Option Blk
structure St where
 env:Nat->V
 L:Heap
 nx:Nat
def upd{α:Type}(f:Nat->α)(i:Nat)(v:α):Nat->α:=λj=>if j=i then v else f j
theorem aAe{α:Type}(f:Nat->α)(i:Nat)(v:α):upd f i v i=v:=by simp[upd]
theorem aAc{α:Type}(f:Nat->α)(i j:Nat)(v:α)(h:j≠i):upd f i v j=f j:=by simp[upd,h]
def Occ(g:GB):Blk->Nat->Prop
 | .box _ _,x=>x=g.blk
 | .vec _ _ _,x=>0<g.cap∧x=g.blk
 | .map _ _,x=>x=g.blk
 | .bld _ _ _,x=>x=g.blk∨x=g.aux
def Own(L:Heap)(G:Ghost)(x:Nat):Prop:=∃id b g,L id=some b∧G id=some g∧Occ g b x
def Dp(D:Nat->Prop)(L:Heap)(G:Ghost)(x:Nat):Prop:=D x∨Own L G x
def Open(fr:Nat×Nat)(lo n:Nat):Prop:=∀i,i<n->¬(fr.1<=lo+i∧lo+i<fr.2)
structure OpenV(fr:Nat×Nat)(lo n z sz:Nat):Prop where
 op:Open fr lo n
 un:sz≠1->¬(fr.1<=z∧z<fr.2)
instance {fr:Nat×Nat}{lo n z sz:Nat}:CoeFun (OpenV fr lo n z sz) (λ_=>∀i,i<n->¬(fr.1<=lo+i∧lo+i<fr.2)):=⟨λh=>h.op⟩
instance {fr:Nat×Nat}{lo n z sz:Nat}:CoeOut (OpenV fr lo n z sz) (Open fr lo n):=⟨OpenV.op⟩
def BlkOk(G:Ghost)(D:Nat->Prop)(w:World)(g:GB):Blk->Prop
 | .box ty cs=>∃c ty' fr,w.heap[g.blk]?=some (.cells c ty' fr)∧(c.size=cs.length∧ty'=ty)∧g.off=0∧Open fr 0 c.size∧∀i x,cs[i]?=some x->Rep G D w x (c.getD i undef)
 | .vec ty sz es=>g.sz=sz∧es.length<=g.cap∧g.cap<2^63∧(∀e,e∈es->e.ncells=some sz) ∧
  (0<g.cap->∃c ty' fr,w.heap[g.blk]?=some (.cells c ty' fr)∧(g.off+g.cap*sz<=c.size∧ty'=ty)∧OpenV fr g.off (g.cap*sz) c.size sz ∧
   ∀i j x,(es[i]?.bind λe=>e.cells[j]?)=some x->Rep G D w x (c.getD (g.off+i*sz+j) undef))
 | .map c es=>∃a,w.heap[g.blk]?=some (.map a c)∧a.size=es.length∧∀(i:Nat) (k v:V) (b:Nat),es[i]?=some (k,v,b)->k.imm=true∧v.imm=true∧∃e,a[i]?=some e∧e.born=b∧Rep G D w k e.key∧Rep G D w v e.val
 | .bld tb ty bs=>∃c fr cap o a,w.heap[g.blk]?=some (.cells c tb fr)∧c.size=2∧g.off=0∧Open fr 0 2∧(c.getD 0 undef=.pointer none∨c.getD 0 undef=.pointer (some ⟨g.blk,0,none⟩)) ∧
  c.getD 1 undef=.slice a bs.length cap∧bs.length<=cap∧cap<2^63∧(cap=0->g.aux=g.blk∧a=none) ∧
  (0<cap->bs≠[]∧a=some ⟨g.aux,o,none⟩∧g.aux≠g.blk∧∃cb fb,w.heap[g.aux]?=some (.cells cb ty fb)∧o+cap<=cb.size∧Open fb o cap∧∀(i:Nat) (x:UInt8),bs[i]?=some x->cb.getD (o+i) undef=.int .u8 x.toNat)
def gint(P:Program)(x:Nat):Prop:=∀w:World,w.ShapedOpen P->∃m,w.cell? ⟨x,0,none⟩=some (.int .i64 m)
def pins:List (Nat×List Value):=[(0,[.int .i64 5,.string ⟨#[80,111,108,105,99,121]⟩]),(1,[.int .i64 5,.string ⟨#[80,111,108,105,99,121]⟩])]
def aZe(x:Nat):Option (List Value):=pins.lookup x
def PinW(w:World):Prop:=∀x vs,aZe x=some vs->x<w.heap.size∧∀j v,vs[j]?=some v->w.cell? ⟨x,j,none⟩=some v
def GIn(P:Program)(D:Nat->Prop)(w:World):Prop:=(∀x,gint P x->∃m,w.cell? ⟨x,0,none⟩=some (.int .i64 m))∧PinW w∧∀x vs,aZe x=some vs->¬D x
def GlW(P:Program)(D:Nat->Prop)(L:Heap)(G:Ghost)(w:World):Prop:=(∀x,gint P x->x<w.heap.size∧¬Own L G x∧∃m,w.cell? ⟨x,0,none⟩=some (.int .i64 m)) ∧
 PinW w∧∀x vs,aZe x=some vs->¬Own L G x∧¬D x
structure Hp(P:Program)(D:Nat->Prop)(n:Nat)(s:St)(G:Ghost)(w:World):Prop where
 fin:∀id,s.nx+n<=id->G id=none
 blk:∀id b,s.L id=some b->∃g,G id=some g∧BlkOk G (Dp D s.L G) w g b
 apart:∀id id' b b' g g' x,s.L id=some b->s.L id'=some b'->G id=some g->G id'=some g'->id≠id'->Occ g b x->¬Occ g' b' x
 away:∀x,Own s.L G x->x<w.heap.size∧¬D x
 dlt:∀x,D x->x<w.heap.size
 gl:GlW P D s.L G w
structure Nxt(L:Heap)(G:Ghost)(w:World)(L':Heap)(G':Ghost)(w':World):Prop where
 le:G.le G'
 same:Same (Own L G) w w'
 own:∀x,x<w.heap.size->Own L' G' x->Own L G x
 os:w'.os=w.os
 tape:w'.tape=w.tape
 output:w'.output=w.output
theorem GlW.nxt{P:Program}{D:Nat->Prop}{L L':Heap}{G G':Ghost}{w w':World}(h:GlW P D L G w)(hx:Nxt L G w L' G' w'):GlW P D L' G' w':=by
 refine⟨λx hg=>?_,λx vs hv=>?_,λx vs hv=>?_⟩
 .obtain⟨h1,h2,m,h3⟩:=h.1 x hg;exact⟨yq h1 hx.same.1,λho=>h2 (hx.own x h1 ho),m,by rw[aF2 (hx.same.2 x h1 h2)];exact h3⟩
 .obtain⟨h1,h3⟩:=h.2.1 x vs hv;have h2:=(h.2.2 x vs hv).1;exact⟨yq h1 hx.same.1,λj v hj=>by rw[aF2 (hx.same.2 x h1 h2)];grind⟩
 .obtain⟨h1,h3⟩:=h.2.1 x vs hv;obtain⟨h2,h4⟩:=h.2.2 x vs hv;exact⟨λho=>h2 (hx.own x h1 ho),h4⟩
theorem GlW.start{P:Program}{D:Nat->Prop}{G:Ghost}{w:World}(h:GIn P D w):GlW P D (λ_=>none) G w:=by
 have hno:∀x,¬Own (λ_=>none) G x:=by rintro x ⟨id,b,g,h,_⟩;grind
 refine⟨λx hg=>?_,h.2.1,λx vs hv=>⟨hno x,h.2.2 x vs hv⟩⟩;obtain⟨m,hm⟩:=h.1 x hg;refine⟨?_,hno x,m,hm⟩;unfold World.cell? at hm;grind
theorem GlW.out{P:Program}{D:Nat->Prop}{L:Heap}{G:Ghost}{w:World}(h:GlW P D L G w):GIn P (Dp D L G) w:=
 ⟨λx hg=>(h.1 x hg).2.2,h.2.1,λx vs hv hd=>hd.elim (h.2.2 x vs hv).2 (h.2.2 x vs hv).1⟩
theorem GlW.outD{P:Program}{D:Nat->Prop}{L:Heap}{G:Ghost}{w:World}(h:GlW P D L G w):GIn P D w:=
 ⟨λx hg=>(h.1 x hg).2.2,h.2.1,λx vs hv=>(h.2.2 x vs hv).2⟩
open Go.RowKit
inductive Src where
 | t (n:Nat)
 | k (v:V)
inductive I where
 | mov (d:Option Nat) (x:Src)
 | pick (d:Option Nat) (c a b:Src)
 | bin (d:Option Nat) (op:BinOp) (x y:Src)
 | eqA (d:Option Nat) (neg:Bool) (ks:List Nat) (x y:Src)
 | eqB (d:Option Nat) (neg:Bool) (x y:Src)
 | isnil (d:Option Nat) (neg:Bool) (kd:Nat) (x:Src)
 | un (d:Option Nat) (op:UnOp) (x:Src)
 | cvt (d:Option Nat) (k:IntKind) (x:Src)
 | cvs (d:Option Nat) (x:Src)
 | build (d:Option Nat) (zero:List V) (parts:List (Nat×Nat×Src))
 | field (d:Option Nat) (off sz:Nat) (ag:Bool) (x:Src)
 | ext (d:Option Nat) (i:Nat) (x:Src)
 | idx (d:Option Nat) (x i:Src)
 | idxA (d:Option Nat) (n sz:Nat) (ag:Bool) (x i:Src)
 | slcS (d:Option Nat) (x:Src) (lo hi:Option Src)
 | slc (d:Option Nat) (sz:Nat) (x:Src) (lo hi:Option Src)
 | len (d:Option Nat) (st:Bool) (x:Src)
 | fadr (d:Option Nat) (off:Nat) (x:Src)
 | iadr (d:Option Nat) (sz:Nat) (x i:Src)
 | iadrA (d:Option Nat) (n sz:Nat) (x i:Src)
 | nchk (d:Option Nat) (x:Src)
 | load (d:Option Nat) (c:Bool) (sz:Nat) (ag:Bool) (x:Src)
 | store (sz:Nat) (x v:Src)
 | stq (nw:Bool) (sz:Nat) (x v:Src)
 | alloc (d ty:Nat) (zero:List V)
 | box (d ty:Nat) (x:Src)
 | mkl (d:Option Nat) (sz:Nat) (parts:List Src)
 | mkv (d:Nat) (ty sz:Nat) (parts:List Src)
 | mk0 (d:Nat) (ty sz:Nat) (x:Src)
 | appl (d:Nat) (ty sz:Nat) (x:Src)
 | app (d:Nat) (ty sz:Nat) (x y:Src)
 | call (d:Option Nat) (c:Bool) (f:Nat) (args:List Src)
 | mx (d:Option Nat) (isMax:Bool) (x y:Src)
 | mx3 (d:Option Nat) (isMax:Bool) (x y z:Src)
 | ecall (d:Option Nat) (n f:Nat) (args:List Src)
 | ptreq (d:Option Nat) (neg:Bool) (x y:Src)
 | touns (d:Option Nat) (x:Src)
 | frouns (d:Option Nat) (u z:Nat) (x:Src)
 | sdata (d:Option Nat) (x:Src)
 | ustr (d:Option Nat) (ty:Nat) (x y:Src)
 | s2b (d ty:Nat) (x:Src)
 | b2s (d:Option Nat) (x:Src)
 | clos (d:Option Nat) (f:Nat) (caps:List Src)
 | vcall (d:Option Nat) (n:Nat) (x:Src) (args:List Src)
 | pcall (d:Option Nat) (x:Src) (args:List Src)
 | mkm (d:Nat)
 | mget (d:Option Nat) (ag:Bool) (ks:List Nat) (z:V) (c:Bool) (x k:Src)
 | mput (ag:Bool) (ks:List Nat) (x k v:Src)
 | ment (d:Option Nat) (ag:Bool) (ks:List Nat) (z:V) (x k:Src)
 | mst (x t v:Src)
 | ldo (d:Option Nat) (sz:Nat) (ag:Bool) (x:Src)
 | ldr (d:Option Nat) (sz:Nat) (ag:Bool) (x:Src) (b:Nat)
 | ecr (d:Option Nat) (n f:Nat) (args:List Src) (b:Nat)
 | mkz (d ty m:Nat)
 | apq (d:Nat) (ty sz:Nat) (x y:Src)
def I.dst:I->Option Nat
 | .mov d _|.pick d _ _ _|.bin d _ _ _|.eqA d _ _ _ _|.eqB d _ _ _|.isnil d _ _ _|.un d _ _|.cvt d _ _|.cvs d _|.build d _ _|.field d _ _ _ _|.ext d _ _|.idx d _ _|.idxA d _ _ _ _ _
 | .slcS d _ _ _|.slc d _ _ _ _|.len d _ _|.fadr d _ _|.iadr d _ _ _|.iadrA d _ _ _ _|.nchk d _|.load d _ _ _ _|.mkl d _ _|.call d _ _ _|.mx d _ _ _|.mx3 d _ _ _ _|.ecall d _ _ _|.ptreq d _ _ _|.touns d _|.frouns d _ _ _|.sdata d _|.ustr d _ _ _|.b2s d _|.clos d _ _|.vcall d _ _ _|.pcall d _ _|.mget d _ _ _ _ _ _|.ment d _ _ _ _ _|.ldo d _ _ _|.ldr d _ _ _ _|.ecr d _ _ _ _=>d
 | .store _ _ _|.stq _ _ _ _|.mput _ _ _ _ _|.mst _ _ _=>none
 | .alloc d _ _|.box d _ _|.mkv d _ _ _|.mk0 d _ _ _|.appl d _ _ _|.app d _ _ _ _|.s2b d _ _|.mkm d|.apq d _ _ _ _|.mkz d _ _=>some d
def I.mk:I->Option Nat
 | .alloc d _ _|.box d _ _|.mkv d _ _ _|.mk0 d _ _ _|.appl d _ _ _|.app d _ _ _ _|.s2b d _ _|.mkm d|.apq d _ _ _ _|.mkz d _ _=>some d
 | _=>none
def St.set(s:St)(d:Nat)(v:V):St:=⟨upd s.env d v,s.L,s.nx⟩
def St.setO(s:St):Option Nat->V->St
 | some d,v=>s.set d v
 | none,_=>s
def St.ev(s:St):Src->V
 | .t n=>s.env n
 | .k v=>v
def St.add(s:St)(id:Nat)(b:Blk):St:=⟨s.env,upd s.L id (some b),s.nx⟩
def St.put(s:St)(id:Nat)(b:Blk):St:=⟨s.env,upd s.L id (some b),s.nx⟩
def St.drop(s:St)(id:Nat):St:=⟨s.env,upd s.L id none,s.nx⟩
def pack(ag:Bool)(cs:List V):V:=if ag then .agg cs else cs.headD .junk
def V.recell:V->List V->V
 | .agg _,cs=>.agg cs
 | _,cs=>cs.headD .junk
def aB3(zero:List V)(off:Nat)(cs:List V):List V:=zero.take off++cs++zero.drop (off+cs.length)
def aG5(op:BinOp)(k:IntKind)(x y:Int):Int:=
 let a:=BitVec.ofInt k.bits x;let b:=BitVec.ofInt k.bits y
 match op with
 | .and=>k.wrap (a &&& b).toNat
 | .or=>k.wrap (a ||| b).toNat
 | .xor=>k.wrap (a ^^^ b).toNat
 | _=>k.wrap (a &&& ~~~b).toNat
def vshr(k:IntKind)(a b:Int):Int:=a.fdiv (2^min b.toNat k.bits)
def vint(op:BinOp)(k:IntKind)(a b:Int)(K:V->Prop):Prop:=
 match op with
 | .add=>K (.int k (k.wrap (a+b)))
 | .sub=>K (.int k (k.wrap (a-b)))
 | .mul=>K (.int k (k.wrap (a*b)))
 | .quo=>b≠0∧K (.int k (k.wrap (a.tdiv b)))
 | .rem=>b≠0∧K (.int k (a.tmod b))
 | .and=>K (.int k (aG5 .and k a b))
 | .or=>K (.int k (aG5 .or k a b))
 | .xor=>K (.int k (aG5 .xor k a b))
 | .andNot=>K (.int k (aG5 .andNot k a b))
 | .eql=>K (.bool (decide (a=b)))
 | .neq=>K (.bool (!decide (a=b)))
 | .lss=>K (.bool (decide (a<b)))
 | .leq=>K (.bool (decide (a<=b)))
 | .gtr=>K (.bool (decide (b<a)))
 | .geq=>K (.bool (decide (b<=a)))
 | .shr=>0<=b∧K (.int k (vshr k a b))
 | _=>False
def vstr(op:BinOp)(a b:List UInt8)(K:V->Prop):Prop:=
 match op with
 | .add=>a.length+b.length<2^63∧K (.str (a++b))
 | .eql=>K (.bool (decide (a=b)))
 | .neq=>K (.bool (!decide (a=b)))
 | .lss=>K (.bool (Op.bytesLess a b))
 | .leq=>K (.bool (Op.bytesLess a b||decide (a=b)))
 | .gtr=>K (.bool (!(Op.bytesLess a b||decide (a=b))))
 | .geq=>K (.bool (!Op.bytesLess a b))
 | _=>False
def vbin(op:BinOp)(x y:V)(K:V->Prop):Prop:=
 match x,y with
 | .int k a,.int k' b=>(op=.shr∨k=k')∧vint op k a b K
 | .str a,.str b=>vstr op a b K
 | _,_=>False
def vun(op:UnOp)(x:V)(K:V->Prop):Prop:=
 match op,x with
 | .not,.bool b=>K (.bool !b)
 | .neg,.int k n=>K (.int k (k.wrap (0-n)))
 | _,_=>False
def aEa:Nat->V->V->Option Bool
 | 0,.int k a,.int k' b=>if k=k' then some (decide (a=b))else none
 | 1,.str a,.str b=>some (decide (a=b))
 | 2,.bool a,.bool b=>some (a==b)
 | _,_,_=>none
def aBe:List Nat->List V->List V->Option Bool
 | [],[],[]=>some true
 | k::ks,a::r,b::s=>match aEa k a b,aBe ks r s with
   | some x,some y=>some (x&&y)
   | _,_=>none
 | _,_,_=>none
def aBo(o:Option V)(d:Nat)(K:Nat->Prop):Prop:=
 match o with
 | none=>K d
 | some (.int _ i)=>0<=i∧K i.toNat
 | _=>False
def aAs(bs:List UInt8):List V:=bs.map λb=>.int .u8 b.toNat
def aAt(sz:Nat)(L:Heap)(y:V)(K:List V->Prop):Prop:=
 match y with
 | .nils=>K []
 | .lst sz' es=>sz'=sz∧K es
 | .own id sz' off len=>match L id with
   | some (.vec _ _ es)=>sz'=sz∧off+len<=es.length∧K ((es.drop off).take len)
   | _=>False
 | .str s=>sz=1∧K (s.map λb=>.int .u8 b.toNat)
 | _=>False
def view(L:Heap):Nat->V->V
 | n+1,.own id sz off len=>match L id with
   | some (.vec _ _ es)=>if off+len<=es.length then .lst sz (((es.drop off).take len).map (view L n))else .own id sz off len
   | _=>.own id sz off len
 | n+1,.ptr id o=>match L id with
   | some (.box _ cs)=>.cptr ((cs.drop o).map (view L n))
   | _=>.ptr id o
 | n+1,.fn f cs=>.fn f (cs.map (view L n))
 | n+1,.agg cs=>.agg (cs.map (view L n))
 | n+1,.tup cs=>.tup (cs.map (view L n))
 | _,v=>v
mutual
def V.fz(id:Nat)(es:List V):V->V
 | .own i sz off n=>if i=id∧off+n<=es.length then .lst sz ((es.drop off).take n)else .own i sz off n
 | .agg cs=>.agg (V.fzL id es cs)
 | .tup cs=>.tup (V.fzL id es cs)
 | .fn f cs=>.fn f (V.fzL id es cs)
 | .lst sz cs=>.lst sz (V.fzL id es cs)
 | .cptr cs=>.cptr (V.fzL id es cs)
 | .junk=>.junk
 | .bool b=>.bool b
 | .int k n=>.int k n
 | .str s=>.str s
 | .nilp=>.nilp
 | .nils=>.nils
 | .ptr i o=>.ptr i o
 | .eptr i j k=>.eptr i j k
 | .map i=>.map i
 | .nilm=>.nilm
 | .raw v=>.raw v
def V.fzL(id:Nat)(es:List V):List V->List V
 | []=>[]
 | x::r=>x.fz id es::V.fzL id es r
end
def Blk.fz(id:Nat)(es:List V):Blk->Blk
 | .box ty cs=>.box ty (V.fzL id es cs)
 | .vec ty sz l=>.vec ty sz (V.fzL id es l)
 | b=>b
def aDc(id:Nat)(es:List V)(L:Heap):Heap:=λi=>if i=id then none else(L i).map (Blk.fz id es)
def St.fz(s:St)(id:Nat)(es:List V):St:=⟨λi=>(s.env i).fz id es,aDc id es s.L,s.nx⟩
inductive FzS:St->St->Prop where
 | refl (s:St):FzS s s
 | step {s s':St} (id ty sz:Nat) (es:List V) (h:s.L id=some (.vec ty sz es)) (hi:V.imms es=true) (hs:FzS (s.fz id es) s'):FzS s s'
 | up {s s':St} (id ty:Nat) (cs cs':List V) (h:s.L id=some (.box ty cs)) (hn:cs.length=cs'.length)
  (hw:∀(i:Nat) (x y:V),cs[i]?=some x->cs'[i]?=some y->∀(G:Ghost) (D:Nat->Prop) (w:World) (v:Value),Rep G D w x v->Rep G D w y v)
  (hs:FzS ⟨s.env,upd s.L id (some (.box ty cs')),s.nx⟩ s'):FzS s s'
def PTr(P:Program)(f:FuncId)(args:List V)(r:V):Prop:=
 ∀(D:Nat->Prop) (w:World) (vs:Array Value),(∀b,D b->b<w.heap.size)->GIn P D w->args.length=vs.size ->
   (∀i x,args[i]?=some x->Rep (λ_=>none) D w x (vs.getD i undef)) ->
   Calls P f vs w λe w'=>∃v,e=.returned v∧Below w.heap.size w w'∧Rep (λ_=>none) D w' r v
def ECall(P:Program)(f:FuncId)(args:List V)(L:Heap)(nx:Nat)(post:V->Heap->Nat->Prop):Prop:=
 (∃r L' nx',post r L' nx') ∧
 ∀(D:Nat->Prop) (G:Ghost) (w:World) (vs:Array Value),Hp P D 0 ⟨λ_=>.junk,L,nx⟩ G w->args.length=vs.size ->
   (∀i x,args[i]?=some x->Rep G (Dp D L G) w x (vs.getD i undef)) ->
   Calls P f vs w λe w'=>∃v r L' nx' G',e=.returned v∧post r L' nx'∧Hp P D 0 ⟨λ_=>.junk,L',nx'⟩ G' w'∧nx<=nx'∧Nxt L G w L' G' w'∧Rep G' (Dp D L' G') w' r v
def aCn(d ty sz:Nat)(x y:V)(s:St)(K:St->Prop):Prop:=
 match x with
 | .nils=>aAt sz s.L y λys=>ys.length<=2^32∧K ((s.add (s.nx+d) (.vec ty sz ys)).set d (.own (s.nx+d) sz 0 ys.length))
 | .own id sz' off n=>match s.L id with
   | some (.vec ty' _ es)=>ty'=ty∧sz'=sz∧off+n<=es.length∧aAt sz s.L y λys=>n+ys.length<=2^32 ∧
    K (((s.drop id).add (s.nx+d) (.vec ty sz ((es.drop off).take n++ys))).set d (.own (s.nx+d) sz 0 (n+ys.length)))
   | _=>False
 | _=>False
def aP6:V->Prop
 | .str _=>False
 | _=>True
def mxI(isMax:Bool)(a b:Int):Int:=if isMax then(if b>a then b else a)else(if b<a then b else a)
def aBk(P:Program)(f:Nat):Bool:=match P.funcs[f]? with
 | some fn => fn.body.isSome && fn.name != "runtime.NumGoroutine"
 | none=>false
def aAf(P:Program):I->St->(St->Prop)->Prop
 | .mov d x,s,K=>K (s.setO d (s.ev x))
 | .pick d c a b,s,K=>match s.ev c with
   | .bool t=>K (s.setO d (if t then s.ev a else s.ev b))
   | _=>False
 | .bin d op x y,s,K=>vbin op (s.ev x) (s.ev y) λv=>K (s.setO d v)
 | .eqA d neg ks x y,s,K=>match s.ev x,s.ev y with
   | .agg a,.agg b=>∃t,aBe ks a b=some t∧K (s.setO d (.bool (t != neg)))
   | _,_=>False
 | .eqB d neg x y,s,K=>match s.ev x,s.ev y with
   | .bool a,.bool b=>K (s.setO d (.bool ((a==b) != neg)))
   | _,_=>False
 | .isnil d neg kd x,s,K=>match kd,s.ev x with
   | 0,.nilp=>K (s.setO d (.bool !neg))
   | 1,.nils=>K (s.setO d (.bool !neg))
   | 2,.nilm=>K (s.setO d (.bool !neg))
   | 0,.ptr _ _=>K (s.setO d (.bool neg))
   | 0,.eptr _ _ _=>K (s.setO d (.bool neg))
   | 0,.cptr _=>K (s.setO d (.bool neg))
   | 2,.map _=>K (s.setO d (.bool neg))
   | 1,.lst _ es=>0<es.length∧K (s.setO d (.bool neg))
   | 1,.own _ _ _ len=>0<len∧K (s.setO d (.bool neg))
   | _,_=>False
 | .un d op x,s,K=>vun op (s.ev x) λv=>K (s.setO d v)
 | .cvt d k x,s,K=>match s.ev x with
   | .int _ n=>K (s.setO d (.int k (k.wrap n)))
   | _=>False
 | .cvs ..,_,_=>False
 | .build d zero parts,s,K=>(∀p∈parts,(s.ev p.2.2).ncells=some p.2.1)∧K (s.setO d (.agg (parts.foldl (λcs p=>aB3 cs p.1 (s.ev p.2.2).cells) zero)))
 | .field d off sz ag x,s,K=>match s.ev x with
   | .agg cs=>off+sz<=cs.length∧K (s.setO d (pack ag ((cs.drop off).take sz)))
   | _=>False
 | .ext d i x,s,K=>match s.ev x with
   | .tup cs=>i<cs.length∧K (s.setO d (cs.getD i .junk))
   | _=>False
 | .idx d x i,s,K=>match s.ev x,s.ev i with
   | .str t,.int _ n=>0<=n∧n.toNat<t.length∧K (s.setO d (.int .u8 (t.getD n.toNat 0).toNat))
   | _,_=>False
 | .idxA d n sz ag x i,s,K=>match s.ev x,s.ev i with
   | .agg cs,.int _ j=>0<=j∧j<n∧n*sz<=cs.length∧K (s.setO d (pack ag ((cs.drop (j.toNat*sz)).take sz)))
   | _,_=>False
 | .slcS d x lo hi,s,K=>match s.ev x with
   | .str t=>aBo (lo.map s.ev) 0 λl=>aBo (hi.map s.ev) t.length λh=>l<=h∧h<=t.length∧K (s.setO d (.str ((t.take h).drop l)))
   | _=>False
 | .slc d sz x lo hi,s,K=>match s.ev x with
   | .nils=>aBo (lo.map s.ev) 0 λl=>aBo (hi.map s.ev) 0 λh=>l<=h∧h<=0∧K (s.setO d .nils)
   | .lst sz' es=>sz'=sz∧aBo (lo.map s.ev) 0 λl=>aBo (hi.map s.ev) es.length λh=>l<=h∧h<=es.length∧K (s.setO d (.lst sz ((es.take h).drop l)))
   | .own id sz' off n=>sz'=sz∧aBo (lo.map s.ev) 0 λl=>aBo (hi.map s.ev) n λh=>l<=h∧h<=n∧K (s.setO d (.own id sz (off+l) (h-l)))
   | _=>False
 | .len d st x,s,K=>match st,s.ev x with
   | true,.str t=>K (s.setO d (.int .i64 t.length))
   | false,.nils=>K (s.setO d (.int .i64 0))
   | false,.lst _ es=>K (s.setO d (.int .i64 es.length))
   | false,.own _ _ _ n=>K (s.setO d (.int .i64 n))
   | _,_=>False
 | .fadr d off x,s,K=>match s.ev x with
   | .cptr cs=>K (s.setO d (.cptr (cs.drop off)))
   | .ptr id o=>K (s.setO d (.ptr id (o+off)))
   | .eptr id i j=>K (s.setO d (.eptr id i (j+off)))
   | _=>False
 | .iadr d sz x i,s,K=>match s.ev x,s.ev i with
   | .lst sz' es,.int _ n=>sz'=sz∧0<=n∧n.toNat<es.length∧K (s.setO d (.cptr (es.getD n.toNat .junk).cells))
   | .own id sz' off len,.int _ n=>sz'=sz∧0<=n∧n.toNat<len∧K (s.setO d (.eptr id (off+n.toNat) 0))
   | _,_=>False
 | .iadrA ..,_,_=>False
 | .nchk d x,s,K=>match s.ev x with
   | .cptr cs=>K (s.setO d (.cptr cs))
   | .ptr id o=>K (s.setO d (.ptr id o))
   | .eptr id i j=>K (s.setO d (.eptr id i j))
   | .fn f cs=>K (s.setO d (.fn f cs))
   | _=>False
 | .load d c sz ag x,s,K=>match s.ev x with
   | .cptr cs=>sz<=cs.length∧K (s.setO d (pack ag (cs.take sz)))
   | .ptr id o=>match s.L id with
     | some (.box _ cs)=>c=false∧o+sz<=cs.length∧K (s.setO d (pack ag ((cs.drop o).take sz)))
     | _=>False
   | .eptr id i j=>match s.L id with
     | some (.vec _ sz' es)=>c=false∧i<es.length∧j+sz<=sz'∧K (s.setO d (pack ag (((es.getD i .junk).cells.drop j).take sz)))
     | _=>False
   | _=>False
 | .store sz x v,s,K=>match s.ev x with
   | .ptr id o=>match s.L id with
     | some (.box ty cs)=>(s.ev v).ncells=some sz∧o+sz<=cs.length∧K (s.put id (.box ty (aB3 cs o (s.ev v).cells)))
     | _=>False
   | .eptr id i j=>match s.L id with
     | some (.vec ty sz' es)=>(s.ev v).ncells=some sz∧i<es.length∧j+sz<=sz'∧K (s.put id (.vec ty sz' (es.set i ((es.getD i .junk).recell (aB3 (es.getD i .junk).cells j (s.ev v).cells)))))
     | _=>False
   | _=>False
 | .stq ..,_,_=>False
 | .alloc d ty zero,s,K=>K ((s.add (s.nx+d) (.box ty zero)).set d (.ptr (s.nx+d) 0))
 | .box d ty x,s,K=>(s.ev x).ncells.isSome=true∧K ((s.add (s.nx+d) (.box ty (s.ev x).cells)).set d (.ptr (s.nx+d) 0))
 | .mkl d sz parts,s,K=>(∀p∈parts,(s.ev p).ncells=some sz)∧K (s.setO d (.lst sz (parts.map s.ev)))
 | .mkv d ty sz parts,s,K=>(∀p∈parts,(s.ev p).ncells=some sz)∧K ((s.add (s.nx+d) (.vec ty sz (parts.map s.ev))).set d (.own (s.nx+d) sz 0 parts.length))
 | .mkz ..,_,_=>False
 | .mk0 n ty sz x,s,K=>match s.ev x with
   | .int .i64 m=>0<=m∧m<=1073741824∧K ((s.add (s.nx+n) (.vec ty sz [])).set n (.own (s.nx+n) sz 0 0))
   | _=>False
 | .app d ty sz x y,s,K=>(s.ev x=.nils∧aAt sz s.L (s.ev y) (λys=>ys=[])∧K (s.set d .nils))∨aCn d ty sz (s.ev x) (s.ev y) s K
 | .call d c f args,s,K=>if c then∃r,PTr P f (args.map s.ev) r∧V.imms (args.map s.ev)=true∧r.imm=true∧K (s.setO d r)
   else∃r,PTr P f (args.map λa=>view s.L 3 (s.ev a)) r∧V.imms (args.map λa=>view s.L 3 (s.ev a))=true∧r.flat=true∧K (s.setO d r)
 | .ecall d n f args,s,K=>ECall P f (args.map s.ev) s.L (s.nx+n) λr L' nx'=>K ((⟨s.env,L',nx'⟩:St).setO d r)
 | .ptreq ..,_,_=>False
 | .touns ..,_,_=>False
 | .frouns ..,_,_=>False
 | .sdata ..,_,_=>False
 | .ustr ..,_,_=>False
 | .appl n ty sz x,s,K=>match s.ev x with
   | .nils=>K ((s.add (s.nx+n) (.vec ty sz [])).set n (.own (s.nx+n) sz 0 0))
   | .lst sz' es=>sz'=sz∧es.length<=2^32∧K ((s.add (s.nx+n) (.vec ty sz es)).set n (.own (s.nx+n) sz 0 es.length))
   | _=>False
 | .s2b n ty x,s,K=>match s.ev x with
   | .str t=>K ((s.add (s.nx+n) (.vec ty 1 (aAs t))).set n (.own (s.nx+n) 1 0 t.length))
   | _=>False
 | .b2s d x,s,K=>aP6 (s.ev x)∧aAt 1 s.L (s.ev x) λys=>∃bs,ys=aAs bs∧K (s.setO d (.str bs))
 | .clos d f caps,s,K=>K (s.setO d (.fn f (caps.map s.ev)))
 | .vcall d n x args,s,K=>match s.ev x with
   | .fn f cs=>aBk P f=true∧ECall P f (args.map s.ev++cs) s.L (s.nx+n) λr L' nx'=>K ((⟨s.env,L',nx'⟩:St).setO d r)
   | _=>False
 | .pcall d x args,s,K=>match view s.L 4 (s.ev x)with
   | .fn f cs=>aBk P f=true∧∃r,PTr P f ((args.map λa=>view s.L 3 (s.ev a))++cs) r∧V.imms ((args.map λa=>view s.L 3 (s.ev a))++cs)=true∧r.flat=true∧K (s.setO d r)
   | _=>False
 | .mkm ..,_,_=>False
 | .mget ..,_,_=>False
 | .mput ..,_,_=>False
 | .ment ..,_,_=>False
 | .mst ..,_,_=>False
 | .ldo d sz ag x,s,K=>match s.ev x with
   | .ptr id o=>id<s.nx∧match s.L id with
     | some (.box _ cs)=>o+sz<=cs.length∧K (s.setO d (pack ag ((cs.drop o).take sz)))
     | _=>False
   | _=>False
 | .ldr d sz ag x b,s,K=>match s.env b,s.ev x with
   | .ptr id _,.ptr id' o=>id=id'∧match s.L id' with
     | some (.box _ cs)=>o+sz<=cs.length∧K (s.setO d (pack ag ((cs.drop o).take sz)))
     | _=>False
   | _,_=>False
 | .ecr d n f args b,s,K=>ECall P f (args.map s.ev) s.L (s.nx+n) λr L' nx'=>(∀id o,s.env b=.ptr id o->L' id=s.L id)∧K ((⟨s.env,L',nx'⟩:St).setO d r)
 | .apq d ty sz x y,s,K=>match s.ev x with
   | .own id sz' off n=>match s.L id with
     | some (.vec ty' _ es)=>match s.ev y with
       | .lst sz2 ys=>ty'=ty∧sz'=sz∧off+n<=es.length∧sz2=sz∧n+ys.length<=2^32 ∧
        K (((s.drop id).add (s.nx+d) (.vec ty sz ((es.drop off).take n++ys))).set d (.own (s.nx+d) sz 0 (n+ys.length)))
       | _=>False
     | _=>False
   | _=>False
 | .mx d isMax x y,s,K=>match s.ev x,s.ev y with
   | .int k a,.int k' b=>k=k'∧K (s.setO d (.int k (mxI isMax a b)))
   | _,_=>False
 | .mx3 ..,_,_=>False
structure GI where
 g:Option (Nat×Bool)
 i:I
def aA0(P:Program)(x:GI)(s:St)(K:St->Prop):Prop:=
 match x.g with
 | none=>aAf P x.i s K
 | some (t,w)=>match s.env t with
   | .bool b=>if b=w then aAf P x.i s K else K (s.setO x.i.dst (.tup []))
   | .tup []=>K (s.setO x.i.dst (.tup []))
   | _=>False
def aops(P:Program):List GI->St->(St->Prop)->Prop
 | [],s,K=>K s
 | x::r,s,K=>aA0 P x s λs=>aops P r s K
structure Grp where
 g:Option (Nat×Bool)
 l:List I
def aJ1(P:Program):List I->St->(St->Prop)->Prop
 | [],s,K=>K s
 | i::r,s,K=>aAf P i s λs=>aJ1 P r s K
def aE3:List I->St->St
 | [],s=>s
 | i::r,s=>aE3 r (s.setO i.dst (.tup []))
def grun(P:Program)(x:Grp)(s:St)(K:St->Prop):Prop:=
 match x.g with
 | none=>aJ1 P x.l s K
 | some (t,w)=>match s.env t with
   | .bool b=>(b=w->aJ1 P x.l (s.set t (.bool w)) K)∧(b=!w->K (aE3 x.l (s.set t (.bool !w))))
   | .tup []=>K (aE3 x.l s)
   | _=>False
def aYg(P:Program):List Grp->St->(St->Prop)->Prop
 | [],s,K=>K s
 | x::r,s,K=>grun P x s λs=>aYg P r s K
def Grp.flat(x:Grp):List GI:=x.l.map λi=>⟨x.g,i⟩
def Grp.ok(x:Grp):Bool:=match x.g with
 | none=>true
 | some (t,_)=>x.l.all λi=>i.dst != some t
inductive LC where
 | skip
 | bad
 | ops (draw:Bool) (l:List GI)
 | seq (a b:LC)
 | cond (x:Src) (a b:LC)
 | block (id:Nat) (a:LC)
 | loop (a:LC)
 | exit (id:Nat)
 | ret
inductive Gh where
 | own (d ty sz:Nat)
 | frz (d:Nat)
 | frzb (d:Nat)
 | bopen (d:Nat)
 | bclose (d ty:Nat)
 | fz
 | cut
inductive C where
 | skip
 | bad
 | ops (draw:Bool) (l:List Grp)
 | seq (a b:C)
 | seqc (a b:C)
 | cond (x:Src) (a b:C)
 | block (id:Nat) (a:C)
 | loop (a:C)
 | exit (id:Nat)
 | ret
 | gh (g:Gh) (a:C)
 | gha (g:Gh) (a:C)
def C.erase:C->LC
 | .skip=>.skip
 | .bad=>.bad
 | .ops d l=>.ops d (l.flatMap Grp.flat)
 | .seq a b=>.seq a.erase b.erase
 | .seqc a b=>.seq a.erase b.erase
 | .cond x a b=>.cond x a.erase b.erase
 | .block id a=>.block id a.erase
 | .loop a=>.loop a.erase
 | .exit id=>.exit id
 | .ret=>.ret
 | .gh _ a=>a.erase
 | .gha _ a=>a.erase
def C.ok:C->Bool
 | .ops _ l=>l.all Grp.ok
 | .seq a b=>a.ok&&b.ok
 | .seqc a b=>a.ok&&b.ok
 | .cond _ a b=>a.ok&&b.ok
 | .block _ a=>a.ok
 | .loop a=>a.ok
 | .gh _ a=>a.ok
 | .gha _ a=>a.ok
 | _=>true
inductive X where
 | norm
 | exit (n:Nat)
 | ret
def aB2(g:Gh)(s:St)(K:St->Prop):Prop:=
 match g with
 | .own d ty sz=>s.env d=.nils∧K ⟨upd s.env d (.own s.nx sz 0 0),upd s.L s.nx (some (.vec ty sz [])),s.nx+1⟩
 | .frz d=>match s.env d with
   | .own id sz off n=>match s.L id with
     | some (.vec _ _ es)=>V.imms es=true∧off+n<=es.length∧K ((s.drop id).set d (.lst sz ((es.drop off).take n)))
     | _=>False
   | _=>False
 | .frzb d=>match s.env d with
   | .ptr id 0=>match s.L id with
     | some (.box _ cs)=>V.imms cs=true∧K ((s.drop id).set d (.cptr cs))
     | _=>False
   | _=>False
 | .cut=>∃M:St->Prop,M s∧∀s,M s->K s
 | .fz=>∃s',FzS s s'∧K s'
 | .bopen d=>match s.env d with
   | .ptr id 0=>match s.L id with
     | some (.bld tb ty bs)=>∀a,(a=.nilp∨a=.ptr id 0)->(bs=[]->K ⟨s.env,upd s.L id (some (.box tb [a,.nils])),s.nx⟩) ∧
      (bs≠[]->K ⟨s.env,upd (upd s.L s.nx (some (.vec ty 1 (aAs bs)))) id (some (.box tb [a,.own s.nx 1 0 bs.length])),s.nx+1⟩)
     | _=>False
   | _=>False
 | .bclose d ty=>match s.env d with
   | .ptr id 0=>match s.L id with
     | some (.box tb [a,b])=>(a=.nilp∨a=.ptr id 0)∧match b with
       | .nils=>K ⟨s.env,upd s.L id (some (.bld tb ty [])),s.nx⟩
       | .own m 1 0 len=>m≠id∧0<len∧match s.L m with
         | some (.vec ty' _ es)=>ty'=ty∧len<=es.length∧∃bs,es.take len=aAs bs∧K ⟨s.env,upd (upd s.L m none) id (some (.bld tb ty bs)),s.nx⟩
         | _=>False
       | _=>False
     | _=>False
   | _=>False
def seqK(N:St->Prop)(K:X->St->Prop):X->St->Prop
 | .norm,s=>N s
 | x,s=>K x s
def blkK(id:Nat)(K:X->St->Prop):X->St->Prop
 | .exit n,s=>if n=id then K .norm s else K (.exit n) s
 | x,s=>K x s
def St.past(n:Nat)(s:St):St:=⟨s.env,s.L,s.nx+n⟩
def awp(P:Program)(n:Nat):C->(X->St->Prop)->St->Prop
 | .skip,K,s=>K .norm s
 | .bad,_,_=>False
 | .ops _ l,K,s=>aYg P l s λs=>K .norm (s.past n)
 | .seq a b,K,s=>awp P n a (seqK (awp P n b K) K) s
 | .seqc a b,K,s=>∃M:St->Prop,awp P n a (seqK M K) s∧∀s,M s->awp P n b K s
 | .cond x a b,K,s=>match x,s.ev x with
   | .t m,.bool t=>(t=true->awp P n a K (s.set m (.bool true)))∧(t=false->awp P n b K (s.set m (.bool false)))
   | .k _,.bool t=>if t then awp P n a K s else awp P n b K s
   | _,_=>False
 | .block id a,K,s=>awp P n a (blkK id K) s
 | .loop a,K,s=>∃J:Nat->St->Prop,(∃m,J m s)∧∀m s,J m s->awp P n a (seqK (λs=>∃m',m'<m∧J m' s) K) s
 | .exit id,K,s=>K (.exit id) s
 | .ret,K,s=>K .ret s
 | .gh g a,K,s=>aB2 g s (awp P n a K)
 | .gha g a,K,s=>awp P n a (seqK (λs=>aB2 g s (K .norm)) K) s
abbrev Src.i(n:Int):Src:=.k (.int .i64 n)
abbrev Src.s(l:List UInt8):Src:=.k (.str l)
abbrev I.m(a b:Nat):I:=.mov (some a) (.t b)
abbrev I.l(a b:Nat):I:=.load (some a) false 1 false (.t b)
abbrev I.f(a o b:Nat):I:=.fadr (some a) o (.t b)
abbrev I.x(a o b:Nat):I:=.ext (some a) o (.t b)
abbrev I.ia(a z b c:Nat):I:=.iadr (some a) z (.t b) (.t c)
abbrev I.ix(a b c:Nat):I:=.idx (some a) (.t b) (.t c)
abbrev I.b(a:Nat)(o:BinOp)(x y:Nat):I:=.bin (some a) o (.t x) (.t y)
abbrev I.bi(a:Nat)(o:BinOp)(x:Nat)(n:Int):I:=.bin (some a) o (.t x) (.k (.int .i64 n))
abbrev I.ls(a b:Nat):I:=.len (some a) true (.t b)
abbrev I.ll(a b:Nat):I:=.len (some a) false (.t b)
abbrev I.pt(a b c:Nat):I:=.pick (some a) (.t b) (.k (.bool true)) (.t c)
abbrev I.pf(a b c:Nat):I:=.pick (some a) (.t b) (.t c) (.k (.bool false))
abbrev I.c(a f:Nat)(xs:List Src):I:=.call (some a) true f xs
abbrev I.e(a n f:Nat)(xs:List Src):I:=.ecall (some a) n f xs
abbrev C.o(l:List I):C:=.ops false [⟨none,l⟩]
abbrev C.p(l:List I):C:=.ops true [⟨none,l⟩]
abbrev C.n(l:List I)(c:C):C:=.seq (.ops false [⟨none,l⟩]) c
end Go.Ab
namespace Go.Ab
def ofValue:Value->Option V
 | .bool b=>some (.bool b)
 | .int k n=>some (.int k n)
 | .string s=>if s.size<2^63 then some (.str s.data.toList)else none
 | .pointer none=>some .nilp
 | .slice none 0 0=>some .nils
 | .map none=>some .nilm
 | .nilIface=>some (.raw .nilIface)
 | .nilFunc=>some (.raw .nilFunc)
 | _=>none
def aC9:List Value->Option (List V)
 | []=>some []
 | v::r=>match ofValue v,aC9 r with
   | some x,some y=>some (x::y)
   | _,_=>none
def aMs:Value->Option V
 | .agg vs=>(aC9 vs.toList).map .agg
 | v=>ofValue v
def opd(n:Nat):Operand->Option Src
 | .tmp t=>if t<n then some (.t t)else none
 | .const v=>(aMs v).map .k
 | .global g=>((aZe g).bind aC9).map λcs=>.k (.cptr cs)
 | .func f=>some (.k (.fn f []))
def opds(n:Nat):List Operand->Option (List Src)
 | []=>some []
 | v::r=>match opd n v,opds n r with
   | some x,some y=>some (x::y)
   | _,_=>none
def opdO(n:Nat):Option Operand->Option (Option Src)
 | none=>some none
 | some x=>(opd n x).map some
def szOf(P:Program)(t:TypeId):Option Nat:=(P.info? t).map (·.size)
def isAg(P:Program)(t:TypeId):Bool:=match P.underlying t with
 | some (.struct _)=>true
 | some (.array _ _)=>true
 | _=>false
def aEn(P:Program)(t:TypeId):Option Bool:=match P.underlying t with
 | some (.struct _)=>some true
 | some (.array _ _)=>some true
 | some _=>some false
 | none=>none
def aEv(P:Program)(t:TypeId):Option (List V):=((P.info? t).bind (·.zero)).bind λz=>aC9 z.cells.toList
def aFq(P:Program)(t:TypeId):Option TypeId:=match P.underlying t with
 | some (.slice e)=>some e
 | _=>none
def aXk(P:Program)(u:TypeId):Bool:=match P.underlying u with
 | some (.slice _)=>true
 | some .string=>true
 | _=>false
def aGi(P:Program)(t:TypeId)(f:Nat):Option Field:=match P.underlying t with
 | some (.struct fs)=>fs[f]?
 | _=>none
def aJ3:String:=(Extern.AbiNoEscape.rows.headD default).1
def aMp(P:Program)(f:Nat):Bool:=match P.funcs[f]? with
 | some fn=>fn.body.isNone&&fn.name==aJ3&&(Extern.findNext fn).isNone
 | none=>false
def aIf(P:Program)(t:TypeId)(i:Nat):Option (Nat×Nat):=
 match P.underlying t with
 | some (.struct fs)=>(fs.toList.mapM λf=>(P.info? f.type).map λj=>(f.offset,j.size)).bind λps=>ps[i]?
 | some (.array _ e)=>(P.info? e).map λj=>(i*j.size,j.size)
 | _=>none
def aIj(P:Program)(n:Nat)(t:TypeId):List (Nat×Operand)->Option (List (Nat×Nat×Src))
 | []=>some []
 | (i,x)::r=>match aIf P t i,opd n x,aIj P n t r with
   | some (off,s),some y,some z=>some ((off,s,y)::z)
   | _,_,_=>none
def aMm(P:Program)(t:TypeId):Bool:=
 match P.underlying t with
 | some (.struct fs)=>(fs.toList.mapM λf=>(P.info? f.type).map λj=>(f.offset,j.size)).isSome
 | some (.array _ e)=>(P.info? e).isSome
 | _=>false
def aKb(total:Nat)(l:List (Nat×Nat×Src)):Bool:=l.all λp=>p.1+p.2.1<=total
def aZm(P:Program)(fe:TypeId->Option (List Nat)):Nat->List Field->Option (List Nat)
 | _,[]=>some []
 | acc,f::r=>match fe f.type,aEn P f.type with
   | some z, some ag => if f.name != "_" && f.offset = acc && szOf P f.type = some z.length && (ag || z.length = 1) then (aZm P fe (acc + z.length) r).map (z ++ ·) else none
   | _,_=>none
def aHy(P:Program):Nat->TypeId->Option (List Nat)
 | 0,_=>none
 | d+1,t=>match P.underlying t with
   | some (.struct fs)=>if P.stoodInHeld t then none else aZm P (aHy P d) 0 fs.toList
   | some (.int _)=>some [0]
   | some .string=>some [1]
   | some .bool=>some [2]
   | _=>none
def aWh(P:Program)(t:TypeId):Option (Bool×List Nat×V):=match P.underlying t with
 | some (.map k e)=>match aEn P k,aHy P 100 k,((P.info? e).bind (·.zero)).bind aMs with
   | some ag,some ks,some z=>if z.imm then some (ag,ks,z)else none
   | _,_,_=>none
 | _=>none
def aA5(n:Nat):Option Nat->Bool
 | some d=>d<n
 | none=>true
def isZu:Option Value->Bool
 | some (.int .u8 n)=>decide (n=0)
 | _=>false
def isCn(m:Int):Operand->Bool
 | .const (.int .i64 n)=>decide (n=m)
 | _=>false
theorem bCf{z:Option Value}(h:isZu z=true):z=some (.int .u8 0):=by
 unfold isZu at h;grind
theorem aZ0{m:Int}{c:Operand}(h:isCn m c=true):c=.const (.int .i64 m):=by
 unfold isCn at h;grind
def lowI(P:Program)(n:Nat)(hint:Nat->Nat)(o:Oper):Option I:=
 match o.op with
 | .move x=>(opd n x).map λx=>.mov o.dst x
 | .assign x=>(opd n x).map λx=>.mov o.dst x
 | .pick c a b=>match opd n c,opd n a,opd n b with
   | some c,some a,some b=>some (.pick o.dst c a b)
   | _,_,_=>none
 | .alloc e=>match o.dst,aEv P e with
   | some d,some z=>some (.alloc d e z)
   | _,_=>none
 | .box e x=>match o.dst,opd n x with
   | some d,some x=>some (.box d e x)
   | _,_=>none
 | .build t parts=>match aEv P t,aIj P n t parts.toList with
   | some z,some ps=>if aMm P t&&aKb z.length ps then some (.build o.dst z ps)else none
   | _,_=>none
 | .buildSlice t len parts=>match(aFq P t).bind (szOf P),opds n (parts.toList.map (·.2))with
   | some s,some xs =>
     if parts.toList.map (·.1)=zU len&&len*s<=2^24&&0<s&&((aFq P t).bind (aEv P)).any (·.length=s)then
      match o.dst with
      | some d=>if hint d=1 then(aFq P t).map λe=>.mkv d e s xs else some (.mkl (some d) s xs)
      | none=>none
     else none
   | _,_=>none
 | .makeSlice t len cap=>match o.dst,aFq P t,(aFq P t).bind P.info?,opd n len,opd n cap with
   | some d,some e,some i,some (.k (.int .i64 m)),some c=>if m=0&&i.zero.isSome&&i.bytes<=65536 then some (.mk0 d e i.size c)else if decide (0<m)&&decide (m<=65536)&&isZu i.zero&&decide (i.size=1)&&decide (i.bytes<=8)&&isCn m cap then some (.mkz d e m.toNat)else none
   | _,_,_,_,_=>none
 | .load t x=>match szOf P t,aEn P t,opd n x with
   | some s,some ag,some x=>if ag||s=1 then(if(o.dst.any λd=>decide (100<=hint d)&&decide (hint d<100+n))=true then some (.ldr o.dst s ag x (o.dst.elim 0 λd=>hint d-100))else if(o.dst.any λd=>hint d=9)=true then some (.ldo o.dst s ag x)else some (.load o.dst (o.dst.any λd=>hint d=2) s ag x))else none
   | _,_,_=>none
 | .store t x v=>match szOf P t,opd n x,opd n v with
   | some s,some x,some v=>if o.dst=none then(match x with
     | .t k=>if hint (2000000+k)=5 then some (.stq true s x v)else if hint (2000000+k)=6 then some (.stq false s x v)else some (.store s x v)
     | _=>some (.store s x v))else none
   | _,_,_=>none
 | .nilCheck x=>(opd n x).map λx=>.nchk o.dst x
 | .binOp op t x y _=>match opd n x,opd n y with
   | some a,some b =>
     if op==.eql||op==.neq then
      match P.underlying t with
      | some (.int _)=>some (.bin o.dst op a b)
      | some .string=>some (.bin o.dst op a b)
      | some .bool=>some (.eqB o.dst (op==.neq) a b)
      | some (.pointer t)=>match y with
        | .const (.pointer none)=>some (.isnil o.dst (op==.neq) 0 a)
        | _=>if(P.info? t).isSome then some (.ptreq o.dst (op==.neq) a b)else none
      | some (.slice _)=>match y with
        | .const (.slice none 0 0)=>some (.isnil o.dst (op==.neq) 1 a)
        | _=>none
      | some (.map _ _)=>match y with
        | .const (.map none)=>some (.isnil o.dst (op==.neq) 2 a)
        | _=>none
      | some (.struct _)=>if P.eqGuardType P.depth t then none else(aHy P 100 t).map λz=>.eqA o.dst (op==.neq) z a b
      | _=>none
     else some (.bin o.dst op a b)
   | _,_=>none
 | .unOp op _ x=>(opd n x).map λx=>.un o.dst op x
 | .convert src dst x=>match P.underlying src,P.underlying dst,opd n x with
   | some (.pointer t),some .unsafePointer,some x=>if(szOf P t).any (0<·)then some (.touns o.dst x)else none
   | some .unsafePointer,some (.pointer u),some x=>match szOf P u with
     | some z=>if 0<z&&liesAt P P.depth u (z / P.cellsOf u) 0 u 1 then some (.frouns o.dst u z x)else none
     | none=>none
   | some (.int _),some (.int k),some x=>some (.cvt o.dst k x)
   | some .string,some .string,some x=>some (.cvs o.dst x)
   | some .string,some (.slice e),some x=>match P.underlying e,o.dst with
     | some (.int .u8),some d=>some (.s2b d e x)
     | _,_=>none
   | some (.slice e),some .string,some x=>match P.underlying e with
     | some (.int .u8)=>some (.b2s o.dst x)
     | _=>none
   | _,_,_=>none
 | .slice t x lo hi none=>match opd n x,opdO n lo,opdO n hi with
   | some x,some lo,some hi=>match P.underlying t with
     | some .string=>some (.slcS o.dst x lo hi)
     | some (.slice e)=>(szOf P e).map λs=>.slc o.dst s x lo hi
     | _=>none
   | _,_,_=>none
 | .fieldAddr t x f=>match aGi P t f,opd n x with
   | some fd,some x=>if(szOf P fd.type).any (0<·)then some (.fadr o.dst fd.offset x)else none
   | _,_=>none
 | .field t x f=>match aGi P t f,opd n x with
   | some fd,some x=>match szOf P fd.type,aEn P fd.type with
     | some s,some ag=>if ag||s=1 then some (.field o.dst fd.offset s ag x)else none
     | _,_=>none
   | _,_=>none
 | .indexAddr t x i=>match opd n x,opd n i with
   | some x,some i=>match P.underlying t with
     | some (.slice e)=>(szOf P e).bind λs=>if 0<s then some (.iadr o.dst s x i)else none
     | some (.array m e)=>(szOf P e).map λs=>.iadrA o.dst m s x i
     | _=>none
   | _,_=>none
 | .index t x i=>match opd n x,opd n i with
   | some x,some i=>match P.underlying t with
     | some .string=>some (.idx o.dst x i)
     | some (.array m e)=>match szOf P e,aEn P e with
       | some s,some ag=>if ag||s=1 then some (.idxA o.dst m s ag x i)else none
       | _,_=>none
     | _=>none
   | _,_=>none
 | .extract x i=>(opd n x).map λx=>.ext o.dst i x
 | .makeMap t none=>match o.dst,P.underlying t with
   | some d,some (.map _ _)=>some (.mkm d)
   | _,_=>none
 | .lookup t x k c=>match opd n x,opd n k,aWh P t with
   | some x,some k,some (ag,ks,z)=>some (.mget o.dst ag ks z c x k)
   | _,_,_=>none
 | .mapUpdate t x k v=>match opd n x,opd n k,opd n v,aWh P t with
   | some x,some k,some v,some (ag,ks,_)=>if o.dst=none then some (.mput ag ks x k v)else none
   | _,_,_,_=>none
 | .mapEntry t x k=>match opd n x,opd n k,aWh P t with
   | some x,some k,some (ag,ks,z)=>some (.ment o.dst ag ks z x k)
   | _,_,_=>none
 | .entryStore _ x t v=>match opd n x,opd n t,opd n v with
   | some x,some t,some v=>if o.dst=none then some (.mst x t v)else none
   | _,_,_=>none
 | .makeFunc (.func f) first captured=>if first.isEmpty then(opds n captured.toList).map (.clos o.dst f)else none
 | .call c=>match c.callee with
   | .value (.func f)=>if aBk P f then(opds n c.args.toList).map λxs=>.call o.dst (!o.dst.any λd=>hint d=3) f xs
     else if aMp P f then(match opds n c.args.toList with|some [x]=>some (.mov o.dst x)|_=>none)else none
   | .value (.tmp t)=>if t<n then(opds n c.args.toList).map (.pcall o.dst (.t t))else none
   | .builtin .unsafeSliceData=>match c.args.toList with
     | [x]=>(opd n x).map λx=>.sdata o.dst x
     | _=>none
   | .builtin .unsafeString=>match opds n c.args.toList,c.argTypes.toList with
     | some [x,y],[pt,_]=>match P.underlying pt with
       | some (.pointer e)=>if P.cellsOf e=1 then some (.ustr o.dst e x y)else none
       | _=>none
     | _,_=>none
   | .builtin .len=>match c.args.toList,(c.argTypes[0]?).bind P.underlying with
     | [x],some .string=>(opd n x).map λx=>.len o.dst true x
     | [x],some (.slice _)=>(opd n x).map λx=>.len o.dst false x
     | _,_=>none
   | .builtin .append=>match c.args.toList,c.argTypes.toList,o.dst with
     | [x,y],[t,u],some d=>match aFq P t,opd n x,opd n y with
       | some e,some x,some y=>match szOf P e,aEv P e,P.info? e with
         | some s,some z,some i=>if z.length=s&&0<s&&i.bytes<=4096&&aXk P u then(if hint d=8 then(match x with|.k .nils=>some (.appl d e s y)|_=>none)else if hint d=9 then some (.apq d e s x y)else some (.app d e s x y))else none
         | _,_,_=>none
       | _,_,_=>none
     | _,_,_=>none
   | .builtin .max=>match opds n c.args.toList with
     | some [x,y]=>some (.mx o.dst true x y)
     | some [x,y,z]=>some (.mx3 o.dst true x y z)
     | _=>none
   | .builtin .min=>match opds n c.args.toList with
     | some [x,y]=>some (.mx o.dst false x y)
     | some [x,y,z]=>some (.mx3 o.dst false x y z)
     | _=>none
   | _=>none
 | _=>none
def lowE(P:Program)(n:Nat)(hint:Nat->Nat)(o:Oper):Option I:=
 match o.op with
 | .call c=>match c.callee with
   | .value (.func f)=>if hint (1000000+f)=4&&aBk P f then(opds n c.args.toList).map (λxs=>if(o.dst.any λd=>decide (100<=hint d)&&decide (hint d<100+n))=true then .ecr o.dst n f xs (o.dst.elim 0 λd=>hint d-100)else .ecall o.dst n f xs)else none
   | .value (.tmp t)=>if t<n&&!(o.dst.any λd=>hint d=3)then(opds n c.args.toList).map (.vcall o.dst n (.t t))else none
   | _=>none
 | _=>none
def lowX(P:Program)(n:Nat)(hint:Nat->Nat)(o:Oper):Option I:=
 match lowE P n hint o with
 | some i=>some i
 | none=>lowI P n hint o
def lowG(ops:Array Oper)(n:Nat):Option (Nat×Bool)->Option (Option (Nat×Bool))
 | none=>some none
 | some (j,w)=>match(ops[j]?).bind (·.dst)with
   | some t=>if t<n then some (some (t,w))else none
   | none=>none
def aGp(P:Program)(n:Nat)(hint:Nat->Nat)(ops:Array Oper)(o:Oper):Option GI:=
 if aA5 n o.dst then
  match lowG ops n o.guard,lowX P n hint o with
  | some g,some i=>if i.dst=o.dst then some ⟨g,i⟩else none
  | _,_=>none
 else none
def aL4(P:Program)(n:Nat)(hint:Nat->Nat)(ops:Array Oper):List Oper->Option (List GI)
 | []=>some []
 | o::r=>match aGp P n hint ops o,aL4 P n hint ops r with
   | some x,some y=>some (x::y)
   | _,_=>none
def srcT:Src->List Nat
 | .t n=>[n]
 | .k _=>[]
def I.srcs:I->List Src
 | .mov _ x|.un _ _ x|.cvt _ _ x|.cvs _ x|.field _ _ _ _ x|.ext _ _ x|.len _ _ x|.fadr _ _ x|.nchk _ x|.load _ _ _ _ x|.box _ _ x|.isnil _ _ _ x|.touns _ x|.frouns _ _ _ x|.sdata _ x|.mk0 _ _ _ x|.appl _ _ _ x|.s2b _ _ x|.b2s _ x|.ldo _ _ _ x=>[x]
 | .pick _ c a b|.mx3 _ _ c a b=>[c,a,b]
 | .bin _ _ x y|.eqA _ _ _ x y|.eqB _ _ x y|.idx _ x y|.idxA _ _ _ _ x y|.iadr _ _ x y|.iadrA _ _ _ x y|.store _ x y|.stq _ _ x y|.app _ _ _ x y|.apq _ _ _ x y|.mx _ _ x y|.ptreq _ _ x y|.ustr _ _ x y=>[x,y]
 | .build _ _ ps=>ps.map (·.2.2)
 | .slcS _ x lo hi|.slc _ _ x lo hi=>x::(lo.toList++hi.toList)
 | .alloc _ _ _|.mkz _ _ _=>[]
 | .mkl _ _ ps|.mkv _ _ _ ps=>ps
 | .call _ _ _ xs|.ecall _ _ _ xs|.clos _ _ xs=>xs
 | .vcall _ _ x xs=>x::xs
 | .ldr _ _ _ x b=>[x,.t b]
 | .ecr _ _ _ xs b=>.t b::xs
 | .pcall _ x xs=>x::xs
 | .mkm _=>[]
 | .mget _ _ _ _ _ x k|.ment _ _ _ _ x k=>[x,k]
 | .mput _ _ x k v|.mst x k v=>[x,k,v]
def I.reads(i:I):List Nat:=i.srcs.flatMap srcT
def bGf:Src->Bool
 | .t _=>true
 | .k v=>v.imm
def I.constOk(i:I):Bool:=i.srcs.all bGf&&(match i with|.build _ z _=>V.imms z|.alloc _ _ z=>V.imms z|.mget _ _ _ z _ _ _=>z.imm|.ment _ _ _ z _ _=>z.imm|_=>true)
def I.rank:I->Nat
 | .load _ c _ _ _|.call _ c _ _=>if c then 0 else 1
 | .touns _ _|.frouns _ _ _ _|.b2s _ _|.mget _ _ _ _ _ _ _|.pcall _ _ _|.ldo _ _ _ _|.ldr _ _ _ _ _=>1
 | .alloc _ _ _|.box _ _ _|.mkv _ _ _ _|.mk0 _ _ _ _|.appl _ _ _ _|.s2b _ _ _|.mkm _|.mkz _ _ _=>2
 | .store _ _ _|.stq _ _ _ _|.app _ _ _ _ _|.apq _ _ _ _ _|.ustr _ _ _ _|.mput _ _ _ _ _|.ment _ _ _ _ _ _|.mst _ _ _=>3
 | .ecall _ _ _ _|.vcall _ _ _ _|.ecr _ _ _ _ _=>4
 | _=>0
def I.ang:I->Bool
 | .call _ c _ _=>c
 | _=>false
def GI.reads(x:GI):List Nat:=x.i.reads++(match x.g with|some (t,_)=>[t]|none=>[])
def disj(a b:List Nat):Bool:=a.all λx=>!b.contains x
def GI.swq(x y:GI):Bool:=match x,y with
 | ⟨none,.stq a _ _ _⟩,⟨none,.stq b _ _ _⟩=>a != b
 | ⟨none,.ldo _ _ _ _⟩,⟨none,.apq _ _ _ _ _⟩=>true
 | ⟨none,.apq _ _ _ _ _⟩,⟨none,.ldo _ _ _ _⟩=>true
 | _,_=>false
def GI.indep(x y:GI):Bool:=
 disj x.i.dst.toList y.reads&&disj y.i.dst.toList x.reads&&disj x.i.dst.toList y.i.dst.toList &&
 (x.swq y||(!(3<=x.i.rank&&y.i.rank≠0)&&!(3<=y.i.rank&&x.i.rank≠0)))&&!(x.i.rank=4&&y.i.ang)&&!(y.i.rank=4&&x.i.ang)
def GI.swl(x y:GI):Bool:=match x,y with
 | ⟨none,.ldr _ _ _ _ b⟩,⟨none,.ecr _ _ _ _ c⟩=>b==c
 | ⟨none,.ecr _ _ _ _ c⟩,⟨none,.ldr _ _ _ _ b⟩=>b==c
 | _,_=>false
def GI.core(x:GI):Bool:=decide (x.i.rank<=1)||decide (x.i.rank=4)
def GI.indepL(x y:GI):Bool:=x.indep y||(x.swl y&&disj x.i.dst.toList y.reads&&disj y.i.dst.toList x.reads&&disj x.i.dst.toList y.i.dst.toList)
def aAl(l:List GI):Nat:=(l.findIdx? λx=>!x.core).getD l.length
def GI.late(op:Op)(x:GI)(core:List GI):Bool:=match op,x with
 | .alloc _,⟨none,.alloc d _ z⟩=>z.all V.flat1&&core.all λy=>!y.reads.contains d&&!y.i.dst.toList.contains d
 | _,_=>false
def aUg(ops:Array Oper)(before:Nat->Nat->Bool)(l:List GI):Bool:=
 (zU (aAl l)).all (λi=>(zU i).all λj=>before j i||(match l[j]?,l[i]? with|some x,some y=>x.indepL y|_,_=>false)) &&
 (zU l.length).all (λi=>decide (i<aAl l)||(decide (i=aAl l)&&(match ops[i]?,l[i]? with|some o,some x=>x.late o.op (l.take (aAl l))|_,_=>false))||((zU i).all λj=>before j i||(match l[j]?,l[i]? with|some x,some y=>x.indep y&&decide (x.i.rank=0)|_,_=>false)) ||
  (decide (aAl l<i)&&(zU i).all λj=>(before j i&&decide (j≠aAl l))||(match l[j]?,l[i]? with|some x,some y=>x.indep y&&decide (y.i.rank=0)|_,_=>false)) )
def mks(l:List GI):List Nat:=l.filterMap λx=>x.i.mk
def aNx(before:Nat->Nat->Bool)(l:List GI):Bool:=
 (zU l.length).all λi=>(zU i).all λj=>before j i||(match l[j]?,l[i]? with|some x,some y=>x.indep y|_,_=>false)
def aG9(ops:Array Oper):Bool:=
 (zU ops.size).all λi=>((ops[i]?).map λo=>o.after.toList.all λe=>!Region.binds .any e||e.on<i).getD true
def aPs:List Nat->Bool
 | []=>true
 | x::r=>!r.contains x&&aPs r
def aOh(ops:Array Oper)(j i:Nat):Bool:=((Region.before ops).getD i 0).testBit j
def aB6(P:Program)(n:Nat)(hint:Nat->Nat):Code->Option LC
 | .skip=>some .skip
 | .region _ ops draw=>match aL4 P n hint ops ops.toList with
   | some l=>if aPs (mks l)then(if draw then(if P.follows .mixedOrders&&(aNx (aOh ops) l||aUg ops (aOh ops) l)&&aG9 ops&&l.all (·.i.constOk)then some (.ops true l)else(if hint 3000000=7 then some .bad else none))else some (.ops false l))else none
   | none=>if hint 3000000=7 then some .bad else none
 | .seq a b=>match aB6 P n hint a,aB6 P n hint b with
   | some x,some y=>some (.seq x y)
   | _,_=>none
 | .cond c a b=>match opd n c,aB6 P n hint a,aB6 P n hint b with
   | some c,some x,some y=>some (.cond c x y)
   | _,_,_=>none
 | .block id a=>(aB6 P n hint a).map (.block id)
 | .loop a=>(aB6 P n hint a).map .loop
 | .exit id=>some (.exit id)
 | .ret=>some .ret
 | .refuse _=>some .bad
 | _=>if hint 3000000=7 then some .bad else none
open Go.RowKit
theorem Nxt.refl(L:Heap)(G:Ghost)(w:World):Nxt L G w L G w:=⟨G.le_refl,Same.refl _ _,λ_ _ h=>h,rfl,rfl,rfl⟩
theorem Nxt.trans{L L' L'':Heap}{G G' G'':Ghost}{w w' w'':World}(h:Nxt L G w L' G' w')(k:Nxt L' G' w' L'' G'' w''):Nxt L G w L'' G'' w'':=by
 refine⟨Ghost.le_trans h.le k.le,⟨Nat.le_trans h.same.1 k.same.1,λb hb hn=>?_⟩,λx hx ho=>?_,k.os.trans h.os,k.tape.trans h.tape,k.output.trans h.output⟩
 .rw[<-h.same.2 b hb hn];exact k.same.2 b (yq hb h.same.1) λho=>hn (h.own b hb ho)
 .exact h.own x hx (k.own x (yq hx h.same.1) ho)
theorem Nxt.rep{D:Nat->Prop}{L L':Heap}{G G':Ghost}{w w':World}(h:Nxt L G w L' G' w'){x:V}{v:Value}(hr:Rep G (Dp D L G) w x v):Rep G' (Dp D L' G') w' x v:=
 hr.mono h.le (λb hb hn hd=>hd.elim (λh1=>hn (.inl h1)) λh1=>hn (.inr (h.own b hb h1))) (h.same.mono λ_ _ ho=>.inr ho)
theorem BlkOk.keep{D:Nat->Prop}{L L':Heap}{G G':Ghost}{w w':World}(h:Nxt L G w L' G' w'){g:GB}{b:Blk}(hk:∀x,Occ g b x->w'.heap[x]?=w.heap[x]?)
 (hb:BlkOk G (Dp D L G) w g b):BlkOk G' (Dp D L' G') w' g b:=by
 cases b with
 | box ty0 cs=>obtain⟨c,ty,fr,h1,h2,h3,h4,h5⟩:=hb;exact⟨c,ty,fr,(hk _ rfl).trans h1,h2,h3,h4,λi x hx=>h.rep (h5 i x hx)⟩
 | vec ty0 sz es=>obtain⟨h1,h2,h3,h4,h5⟩:=hb;refine⟨h1,h2,h3,h4,λhc=>?_⟩;obtain⟨c,ty,fr,k1,k2,k3,k4⟩:=h5 hc;exact⟨c,ty,fr,(hk _ ⟨hc,rfl⟩).trans k1,k2,k3,λi j x hx=>h.rep (k4 i j x hx)⟩
 | map c es=>obtain⟨a,h1,h2,h3⟩:=hb;exact⟨a,(hk _ rfl).trans h1,h2,λi k v b hi=>let⟨q1,q2,e,q3,q4,q5,q6⟩:=h3 i k v b hi;⟨q1,q2,e,q3,q4,h.rep q5,h.rep q6⟩⟩
 | bld tb ty bs=>obtain⟨c,fr,cap,o,a,h1,h2,h3,h4,h5,h6,h7,h8,h9,h10⟩:=hb;refine⟨c,fr,cap,o,a,(hk _ (.inl rfl)).trans h1,h2,h3,h4,h5,h6,h7,h8,h9,λhc=>?_⟩;obtain⟨k0,k1,k2,cb,fb,k3,k4⟩:=h10 hc;exact⟨k0,k1,k2,cb,fb,(hk _ (.inr rfl)).trans k3,k4⟩
theorem Hp.turn{P:Program}{D:Nat->Prop}{n:Nat}{s s':St}{G G':Ghost}{w w':World}(h:Hp P D n s G w)(N:Nat->Prop)
 (hx:Nxt s.L G w s'.L G' w') (fin':∀id,s'.nx+n<=id->G' id=none)
 (hL:∀id b,s'.L id=some b->¬N id->s.L id=some b)
 (hkeep:∀id b g x,s'.L id=some b->¬N id->G id=some g->Occ g b x->w'.heap[x]?=w.heap[x]?)
 (hG:∀id b g,s'.L id=some b->¬N id->G id=some g->G' id=some g)
 (huniq:∀id id',N id->N id'->id=id')
 (hnew:∀id b,s'.L id=some b->N id->∃g,G' id=some g∧BlkOk G' (Dp D s'.L G') w' g b ∧
  ∀x,Occ g b x->x<w'.heap.size∧¬D x∧∀id2 b2 g2,s'.L id2=some b2->¬N id2->G id2=some g2->¬Occ g2 b2 x):Hp P D n s' G' w':=by
 have old:∀id b,s'.L id=some b->¬N id->∃g,G id=some g∧G' id=some g∧BlkOk G (Dp D s.L G) w g b:=λid b hl hn=>by obtain⟨g,h1,h2⟩:=h.blk id b (hL id b hl hn);grind
 refine⟨fin',λid b hl=>?_,λid id' b b' g g' x hl hl' hg hg' hne ho ho'=>?_,λx ho=>?_,λx hd=>yq (h.dlt x hd) hx.same.1,h.gl.nxt hx⟩
 .by_cases hn:N id
  .grind
  .obtain⟨g,h1,h2,h3⟩:=old id b hl hn;exact⟨g,h2,h3.keep hx λx ho=>hkeep id b g x hl hn h1 ho⟩
 .by_cases hn:N id
  .grind
  .obtain⟨g2,m1,m2,_⟩:=old id b hl hn;obtain rfl:g2=g:=zq (m2.symm.trans hg);by_cases hn':N id'
   .grind
   .obtain⟨g3,p1,p2,_⟩:=old id' b' hl' hn';obtain rfl:g3=g':=zq (p2.symm.trans hg');exact h.apart id id' b b' g2 g3 x (hL _ _ hl hn) (hL _ _ hl' hn') m1 p1 hne ho ho'
 .obtain⟨id,b,g,hl,hg,ho⟩:=ho;by_cases hn:N id
  .grind
  .obtain⟨g2,m1,m2,_⟩:=old id b hl hn;obtain rfl:g2=g:=zq (m2.symm.trans hg);obtain⟨q1,q2⟩:=h.away x ⟨id,b,g2,hL _ _ hl hn,m1,ho⟩;grind
theorem Nxt.grow{L:Heap}{G:Ghost}{w w':World}(hb:Below w.heap.size w w'):Nxt L G w L G w':=
 ⟨G.le_refl,⟨hb.size,λb h _=>hb.block b h⟩,λ_ _ h=>h,hb.os,hb.tape,hb.output⟩
theorem Hp.grow{P:Program}{D:Nat->Prop}{n:Nat}{s:St}{G:Ghost}{w w':World}(h:Hp P D n s G w)(hb:Below w.heap.size w w'):Hp P D n s G w':=
 h.turn (λ_=>False) (Nxt.grow hb) h.fin (λ_ _ hl _=>hl) (λid b g x hl _ hg ho=>hb.block x (h.away x ⟨id,b,g,hl,hg,ho⟩).1) (λ_ _ _ _ _ h=>h) (λ_ _ hn=>hn.elim) (λ_ _ _ hn=>hn.elim)
theorem Hp.congr{P:Program}{D:Nat->Prop}{n:Nat}{s s':St}{G:Ghost}{w:World}(h:Hp P D n s G w)(hL:s'.L=s.L)(hU:s'.nx=s.nx):Hp P D n s' G w:=by
 obtain⟨e,L,U⟩:=s;obtain⟨e',L',U'⟩:=s';simp only at hL hU;subst hL hU;exact⟨h.fin,h.blk,h.apart,h.away,h.dlt,h.gl⟩
structure Good(P:Program)(D:Nat->Prop)(n:Nat)(s:St)(G:Ghost)(a:Act)(w:World):Prop where
 size:a.tmps.size=n
 defers:a.defers=[]
 env:∀i,Rep G (Dp D s.L G) w (s.env i) (a.tmps.getD i undef)
 hp:Hp P D n s G w
theorem Good.later{P:Program}{D:Nat->Prop}{n:Nat}{s:St}{G G':Ghost}{a:Act}{w w':World}{L':Heap}{U':Nat}(h:Good P D n s G a w)(hx:Nxt s.L G w L' G' w')(hh:Hp P D n ⟨s.env,L',U'⟩ G' w'):
 Good P D n ⟨s.env,L',U'⟩ G' a w':=⟨h.size,h.defers,λi=>hx.rep (h.env i),hh⟩
theorem Good.put{P:Program}{D:Nat->Prop}{n:Nat}{s:St}{G:Ghost}{a:Act}{w:World}(h:Good P D n s G a w){d:Option Nat}(hd:aA5 n d=true){x:V}{v:Value}(hr:Rep G (Dp D s.L G) w x v):
 Good P D n (s.setO d x) G (a.put d v) w:=by
 cases d with
 | none=>exact h
 | some d =>
   have hdn:d<n:=by simpa[aA5]using hd
   refine⟨by simp[Act.put,h.size],h.defers,λi=>?_,h.hp.congr rfl rfl⟩;simp only[St.setO,St.set,Act.put,upd];by_cases e:i=d
   .subst e;simp only[if_true];have:i<a.tmps.size:=by rw[h.size];omega
    simp_all
   .simp only[e,if_false];have hne:d≠i:=λh=>e h.symm;have:=h.env i;simp_all
theorem aDo(s:St)(d:Option Nat)(x:V):(s.setO d x).L=s.L:=by cases d<;>rfl
theorem aCl(s:St)(d:Option Nat)(x:V):(s.setO d x).nx=s.nx:=by cases d<;>rfl
theorem aG2{v:Value}{x:V}(h:ofValue v=some x)(G:Ghost)(D:Nat->Prop)(w:World):Rep G D w x v:=by
 unfold ofValue at h;split at h<;>first
  | (simp only[za]at h;subst h;first|exact .bool _|exact .int _ _|exact .nilp|exact .nils|exact .nilm|exact .raw _)
  | (split at h
     .rename_i s hs;simp only[za]at h;subst h;have h1:=Rep.str (G:=G) (D:=D) (w:=w) s.data.toList (by simp_all);omega
     grind)
  | grind
theorem aFp(G:Ghost)(D:Nat->Prop)(w:World):∀{l:List Value} {xs:List V},aC9 l=some xs->xs.length=l.length∧∀i c,xs[i]?=some c->Rep G D w c (l.getD i undef)
 | [],xs,h=>by simp only[aC9,za]at h;grind
 | v::r,xs,h=>by
   simp only[aC9]at h;split at h
   .rename_i x y hx hy;simp only[za]at h;subst h;obtain⟨h1,h2⟩:=aFp G D w hy;refine⟨by grind,λi c hc=>?_⟩;cases i with
    | zero=>simp only[List.getElem?_cons_zero,za]at hc;subst hc;exact aG2 hx _ _ _
    | succ i=>grind
   grind
theorem aR9{v:Value}{x:V}(h:aMs v=some x)(G:Ghost)(D:Nat->Prop)(w:World):Rep G D w x v:=by
 unfold aMs at h;split at h
 .rename_i vs;obtain⟨xs,hx,rfl⟩:=zm.1 h;obtain⟨h1,h2⟩:=aFp G D w hx;refine .agg _ _ (by omega) λi c hc=>?_;simp_all
 .exact aG2 h _ _ _
theorem aAm{P:Program}{D:Nat->Prop}{n:Nat}{s:St}{G:Ghost}{a:Act}{w:World}(h:Good P D n s G a w){o:Operand}{x:Src}(ho:opd n o=some x):Rep G (Dp D s.L G) w (s.ev x) (a.eval o):=by
 cases o with
 | tmp t =>
   simp only[opd]at ho;split at ho
   .rename_i ht;simp only[za]at ho;subst ho;exact h.env t
   grind
 | const v=>simp only[opd,zm]at ho;obtain⟨y,hy,rfl⟩:=ho;exact aR9 hy _ _ _
 | global g =>
   simp only[opd,zm,yN]at ho;obtain⟨cs,⟨vs,hv,hc⟩,rfl⟩:=ho;obtain⟨h1,h2⟩:=h.hp.gl.2.1 g vs hv;obtain⟨h3,h4⟩:=h.hp.gl.2.2 g vs hv;obtain⟨h5,h6⟩:=aFp G (Dp D s.L G) w hc;have hj:∀j c,cs[j]?=some c->∃v,vs[j]?=some v∧w.cell? ⟨g,j,none⟩=some v:=λj c hc=>by grind
   refine .cptr cs g 0 h1 (λhd=>hd.elim h4 h3) (λj c hc=>?_) (λj c hc=>?_)
   .grind
   .obtain⟨v,e,q⟩:=hj j c hc;rw[Nat.zero_add,aDk,q];grind
 | func f=>simp only[opd,za]at ho;subst ho;exact .fn f [] #[] rfl λi c hc=>by grind
def New(m:Option Nat)(s:St)(G:Ghost)(s':St)(G':Ghost):Prop:=s'.nx=s.nx∧∀id,(G' id).isSome=true->(G id).isSome=true∨∃d,m=some d∧id=s.nx+d
theorem New.same{m:Option Nat}{s s':St}{G:Ghost}(h:s'.nx=s.nx):New m s G s' G:=⟨h,λ_ h=>.inl h⟩
section
variable {P:Program} {D:Nat->Prop} {n:Nat} {s:St} {G:Ghost} {a:Act} {w:World} {o:Oper} {K:St->Prop} {next:Act->World->Prop} {Q:Exit->Act->World->Prop} {m:Option Nat}
theorem aA1(hg:Good P D n s G a w)(hd:aA5 n o.dst=true)(hn:∀s' G' a' w',K s'->Good P D n s' G' a' w'->Nxt s.L G w s'.L G' w'->New m s G s' G'->next a' w')
 {x:V} {v:Value} (hr:(execOp a.eval o).run P w=.ok (.value v) w) (hv:Rep G (Dp D s.L G) w x v) (hK:K (s.setO o.dst x)) :
 o.upon P a next Q ((execOp a.eval o).run P w):=by
 rw[hr];exact hn _ _ _ _ hK (hg.put hd hv) (by rw[aDo];exact Nxt.refl _ _ _) (New.same (aCl _ _ _))
theorem aCe{k:IntKind}{m:Int}{v:Value}(h:Rep G D w (.int k m) v):v=.int k m:=by cases h;rfl
theorem aDr{b:Bool}{v:Value}(h:Rep G D w (.bool b) v):v=.bool b:=by cases h;rfl
theorem aEk{t:List UInt8}{v:Value}(h:Rep G D w (.str t) v):v=.string ⟨t.toArray⟩∧t.length<2^63:=by cases h;grind
theorem aFx{cs:List V}{v:Value}(h:Rep G D w (.agg cs) v):∃vs,v=.agg vs∧cs.length=vs.size∧∀i c,cs[i]?=some c->Rep G D w c (vs.getD i undef):=by
 cases h;grind
theorem aQ0{cs:List V}{v:Value}(h:Rep G D w (.tup cs) v):∃vs,v=.tuple vs∧cs.length=vs.size∧∀i c,cs[i]?=some c->Rep G D w c (vs.getD i undef):=by
 cases h;grind
theorem aOr{f:Nat}{cs:List V}{v:Value}(h:Rep G D w (.fn f cs) v):∃vs,v=.func (.func f) #[] vs∧cs.length=vs.size∧∀i c,cs[i]?=some c->Rep G D w c (vs.getD i undef):=by
 cases h;grind
theorem aEq{sz:Nat}{es:List V}{v:Value}(h:Rep G D w (.lst sz es) v):∃a cap b q,v=.slice a es.length cap∧es.length<=cap∧cap<2^63 ∧
 (0<es.length->a=some ⟨b,q,none⟩∧b<w.heap.size∧¬D b)∧(∀e,e∈es->e.ncells=some sz) ∧
 (∀i j c,(es[i]?.bind λe=>e.cells[j]?)=some c->(w.cell? ⟨b,q+i*sz+j,none⟩).isSome=true) ∧
 (∀i j c,(es[i]?.bind λe=>e.cells[j]?)=some c->Rep G D w c (aDk w b (q+i*sz+j))):=by
 cases h;exact⟨_,_,_,_,rfl,by omega,by omega,by omega,by omega,by omega,by omega⟩
theorem aDy{id sz off len:Nat}{v:Value}(h:Rep G D w (.own id sz off len) v):∃g a cap,v=.slice a len cap∧G id=some g∧g.sz=sz∧len<=cap∧cap+off=g.cap∧g.cap<2^63 ∧
 (0<cap->a=some ⟨g.blk,g.off+off*sz,none⟩):=by
 cases h;grind
theorem aFw{id off:Nat}{v:Value}(h:Rep G D w (.ptr id off) v):∃g,G id=some g∧v=.pointer (some ⟨g.blk,g.off+off,none⟩):=by cases h;grind
theorem aJa{id i j:Nat}{v:Value}(h:Rep G D w (.eptr id i j) v):∃g,G id=some g∧v=.pointer (some ⟨g.blk,g.off+i*g.sz+j,none⟩):=by cases h;grind
theorem aNa{cs:List V}{v:Value}(h:Rep G D w (.cptr cs) v):∃b q,v=.pointer (some ⟨b,q,none⟩)∧b<w.heap.size∧¬D b ∧
 (∀j c,cs[j]?=some c->(w.cell? ⟨b,q+j,none⟩).isSome=true)∧(∀j c,cs[j]?=some c->Rep G D w c (aDk w b (q+j))):=by
 cases h;grind
theorem aDu{v:Value}(h:Rep G D w .nils v):v=.slice none 0 0:=by cases h;rfl
theorem aK4(t:List UInt8):(⟨t.toArray⟩:ByteArray).toList=t:=by simp
theorem aBw(op:BinOp)(t:TypeId)(x y:Operand)(u v:Value)(hu:(match u with|.nilIface|.agg _=>false|_=>true)=true):
 (eqGuard op t x y u v).run P w=.ok () w:=by
 cases u<;>first|(simp at hu;done)|(cases op<;>simp[eqGuard])
theorem aY8{α:Type}[BEq α][LawfulBEq α][DecidableEq α](a b:α):(a==b)=decide (a=b):=by
 grind
theorem bBi(k k':IntKind)(t:TypeId)(x y:Int)(hy:0<=y):(binOp .shr t (.int k x) (.int k' y)).run P w=.ok (.int k (vshr k x y)) w:=by
 simp only[binOp,Op.shift];rw[if_neg (by omega)];rfl
theorem bCo(op:BinOp)(k:IntKind)(t:TypeId)(x y:Int)(K':V->Prop)(h:vint op k x y K'):
 ∃z,(binOp op t (.int k x) (.int k y)).run P w=.ok z w∧∃r,Rep G D w r z∧K' r:=by
 cases op<;>simp only[vint]at h<;>simp only[binOp,ne_eq,not_true_eq_false,if_false,Op.intArith,Op.intCmp,Op.intBits,Op.intDiv]
 case shr=>exact⟨_,bBi k k t x y h.1,_,.int _ _,h.2⟩
 case quo=>rw[if_neg h.1];exact⟨_,rfl,_,.int _ _,h.2⟩
 case rem=>rw[if_neg h.1];exact⟨_,rfl,_,.int _ _,h.2⟩
 case eql=>exact⟨_,rfl,_,.bool _,by omega⟩
 case neq=>exact⟨_,rfl,_,.bool _,by grind⟩
 all_goals first
  | exact⟨_,rfl,_,.int _ _,h⟩
  | exact⟨_,rfl,_,.bool _,h⟩
  | exact h.elim
theorem aYy(x y:List UInt8):(⟨x.toArray⟩:ByteArray)++⟨y.toArray⟩=⟨(x++y).toArray⟩:=by
 rfl
theorem bD4(op:BinOp)(t:TypeId)(x y:List UInt8)(K':V->Prop)(h:vstr op x y K'):
 ∃z,(binOp op t (.string ⟨x.toArray⟩) (.string ⟨y.toArray⟩)).run P w=.ok z w∧∃r,Rep G D w r z∧K' r:=by
 cases op<;>simp only[vstr]at h<;>simp only[binOp,Op.stringOp,aK4]
 case add =>
  obtain⟨h1,h2⟩:=h;have e:¬(((⟨x.toArray⟩:ByteArray).size+(⟨y.toArray⟩:ByteArray).size:Nat):Int)>IntKind.i64.max:=by show¬((x.toArray.size+y.toArray.size:Nat):Int)>IntKind.i64.max;simp only[List.size_toArray,IntKind.max,IntKind.signed,IntKind.bits];omega
  rw[if_neg e];refine⟨_,rfl,_,?_,h2⟩;rw[aYy];exact .str _ (by grind)
 case eql=>exact⟨_,rfl,_,.bool _,by grind⟩
 case neq=>exact⟨_,rfl,_,.bool _,by grind⟩
 case lss=>exact⟨_,rfl,_,.bool _,h⟩
 case leq=>exact⟨_,rfl,_,.bool _,by grind⟩
 case gtr=>exact⟨_,rfl,_,.bool _,by grind⟩
 case geq=>exact⟨_,rfl,_,.bool _,by omega⟩
 all_goals exact h.elim
theorem aEc{t:TypeId}{z:Nat}(h:szOf P t=some z):(sizeOf t).run P w=.ok z w:=by
 simp only[szOf,zm]at h;obtain⟨i,hi,rfl⟩:=h;simp[sizeOf,typeInfo,hi]
theorem aO0{t:TypeId}{ag:Bool}(h:aEn P t=some ag):(isAgg t).run P w=.ok ag w:=by
 unfold aEn at h;split at h<;>simp only[za,reduceCtorEq]at h<;>subst h<;>rename_i hu
 .simp[isAgg,run_underlying hu]
 .simp[isAgg,run_underlying hu]
 .rename_i d h1 h2;simp only[isAgg,Sem.run_bind,run_underlying hu,Result.andThen_ok];rfl
theorem aIu{t:TypeId}{f:Nat}{fd:Field}(h:aGi P t f=some fd):∃fs,P.underlying t=some (.struct fs)∧fs[f]?=some fd:=by
 unfold aGi at h;grind
theorem aD2{t e:TypeId}(h:aFq P t=some e):P.underlying t=some (.slice e):=by
 unfold aFq at h;grind
theorem aFe(b o k:Nat):(⟨b,o,none⟩:Addr).add k=⟨b,o+k,none⟩:=by
 unfold Addr.add;simp
theorem aM1{b o:Nat}(h:(w.cell? ⟨b,o,none⟩).isSome=true):w.cell? ⟨b,o,none⟩=some (aDk w b o):=by
 obtain⟨v,hv⟩:=yt.1 h;simp[aDk,hv]
theorem aTx{G:Ghost}{D:Nat->Prop}{b q z:Nat}{ag:Bool}{cs:List V}(hz:cs.length=z)(h1:ag=true∨z=1)
 (hr:∀j c,cs[j]?=some c->Rep G D w c (aDk w b (q+j))) :
 Rep G D w (pack ag cs) (if ag then .agg ((zU z).map λj=>aDk w b (q+j)).toArray else aDk w b q):=by
 cases ag with
 | true =>
   simp only[pack,if_true];refine .agg cs _ (by grind) λi c hc=>?_;have hi:i<z:=by grind
   simp_all
 | false =>
   have h1:z=1:=by grind
   subst h1;simp only[pack,zK,if_false]
   match cs,hz with
   | [c],_=>simpa using hr 0 c rfl
theorem aJx{t:TypeId}{z b q:Nat}{ag:Bool}(hs:szOf P t=some z)(ha:aEn P t=some ag)(h1:ag=true∨z=1)
 (hc:∀j,j<z->(w.cell? ⟨b,q+j,none⟩).isSome=true) :
 (loadVar t ⟨b,q,none⟩).run P w=.ok (if ag then .agg ((zU z).map λj=>aDk w b (q+j)).toArray else aDk w b q) w:=by
 simp only[loadVar,Sem.run_bind,aO0 ha,Result.andThen_ok,Sem.run_ite,aEc hs];cases ag with
 | true=>simp only[if_true];rw[run_loadCells w ⟨b,q,none⟩ z (λj=>aDk w b (q+j)) λj hj=>by rw[aFe];exact aM1 (hc j hj)];rfl
 | false =>
   have h1:z=1:=by grind
   subst h1;have:=aM1 (hc 0 (by omega));simp_all
end
end Go.Ab
namespace Go.Ab
open Go.RowKit
section
variable {P:Program} {D:Nat->Prop} {n:Nat} {hint:Nat->Nat} {s:St} {G:Ghost} {a:Act} {w:World} {o:Oper} {K:St->Prop} {next:Act->World->Prop} {Q:Exit->Act->World->Prop} {m:Option Nat}
def aBc(P:Program)(D:Nat->Prop)(n:Nat)(o:Oper)(i:I):Prop:=
 ∀(s:St) (G:Ghost) (a:Act) (w:World) (K:St->Prop) (next:Act->World->Prop) (Q:Exit->Act->World->Prop),aAf P i s K->Good P D n s G a w ->
   (∀s' G' a' w',K s'->Good P D n s' G' a' w'->Nxt s.L G w s'.L G' w'->New i.mk s G s' G'->next a' w')->(∀d,i.mk=some d->G (s.nx+d)=none)->o.upon P a next Q ((execOp a.eval o).run P w)
theorem aD8(m:Sem Value):(do let x <-m;pure (Next.value x):Sem Next).run P w=(m.run P w).andThen λx w'=>.ok (.value x) w':=by
 simp
theorem aIi{x:Option Operand}{y:Option Src}(hx:opdO n x=some y)(hg:Good P D n s G a w){d:Nat}{K':Nat->Prop}(h:aBo (y.map s.ev) d K'):
 (x=none∧K' d)∨∃z k i,x=some z∧a.eval z=.int k i∧0<=i∧K' i.toNat:=by
 cases x with
 | none=>simp only[opdO,za]at hx;subst hx;exact .inl ⟨rfl,h⟩
 | some z =>
   simp only[opdO,zm]at hx;obtain⟨q,hq,rfl⟩:=hx;have hr:=aAm hg hq;simp only[Option.map_some,aBo]at h;split at h
   .grind
   .rename_i k i hh;simp only[za]at hh;rw[hh]at hr;exact .inr ⟨z,k,i,rfl,aCe hr,h.1,h.2⟩
   grind
theorem aGh(sl:Bool)(len cap:Nat){lo hi:Option Operand}{lo' hi':Option Src}(hlo:opdO n lo=some lo')(hhi:opdO n hi=some hi')(hg:Good P D n s G a w){K':Nat->Nat->Prop}(hc:len<=cap)
 (h:aBo (lo'.map s.ev) 0 λl=>aBo (hi'.map s.ev) len λh=>l<=h∧h<=len∧K' l h) :
 ∃l h,l<=h∧h<=len∧K' l h∧(Instr.sliceBounds sl len cap (lo.map a.eval) (hi.map a.eval) none).run P w=.ok (l,h,cap) w:=by
 rcases aIi hlo hg h with⟨rfl,h1⟩|⟨zl,kl,il,rfl,el,pl,h1⟩
 .rcases aIi hhi hg h1 with⟨rfl,h2⟩|⟨zh,kh,ih,rfl,eh,ph,h2⟩
  .exact⟨_,_,h2.1,h2.2.1,h2.2.2,by rfl⟩
  .have e:ih<=cap:=by omega
   exact⟨_,_,h2.1,h2.2.1,h2.2.2,by simp[Instr.sliceBounds,Instr.sliceBound,eh,asIntOf,ph,e]⟩
 .rcases aIi hhi hg h1 with⟨rfl,h2⟩|⟨zh,kh,ih,rfl,eh,ph,h2⟩
  .have e:il<=len:=by omega
   exact⟨_,_,h2.1,h2.2.1,h2.2.2,by simp[Instr.sliceBounds,Instr.sliceBound,el,asIntOf,pl,e]⟩
  .have e:ih<=cap:=by omega
   have e2:il<=ih:=by omega
   exact⟨_,_,h2.1,h2.2.1,h2.2.2,by simp[Instr.sliceBounds,Instr.sliceBound,el,eh,asIntOf,pl,ph,e,e2,Int.toNat_of_nonneg ph]⟩
theorem aMf(t:List UInt8)(l h:Nat):(⟨t.toArray⟩:ByteArray).extract l h=⟨((t.take h).drop l).toArray⟩:=by
 apply ByteArray.ext;apply Array.ext';rw[Lib.extract_data];simp[List.drop_take]
theorem bMo{y:Src}(hd:aA5 n o.dst=true)(x:Operand)(hx:opd n x=some y)(ho:o.op=.move x∨o.op=.assign x):aBc P D n o (.mov o.dst y):=by
 intro s G a w K next Q h hg hn hfree
 refine aA1 hg hd hn (x:=s.ev y) (v:=a.eval x) ?_ (aAm hg hx) h;rcases ho with ho|ho<;>simp only[execOp,ho]<;>rfl
theorem bNq(hd:aA5 n o.dst=true){c x y:Operand}{c' x' y':Src}(hc:opd n c=some c')(hx:opd n x=some x')(hy:opd n y=some y')(ho:o.op=.pick c x y):aBc P D n o (.pick o.dst c' x' y'):=by
 intro s G a w K next Q h hg hn hfree
 have rc:=aAm hg hc;simp only[aAf]at h;split at h
 .rename_i t ht;rw[ht]at rc;refine aA1 hg hd hn (x:=if t then s.ev x' else s.ev y') (v:=if t then a.eval x else a.eval y) ?_ ?_ h
  .simp[execOp,ho,aDr rc,asBool]
  .cases t
   .exact aAm hg hy
   .exact aAm hg hx
 grind
theorem bJl(hd:aA5 n o.dst=true){op:BinOp}{t t':TypeId}{x y:Operand}{x' y':Src}(hx:opd n x=some x')(hy:opd n y=some y')(ho:o.op=.binOp op t x y t'):aBc P D n o (.bin o.dst op x' y'):=by
 intro s G a w K next Q h hg hn hfree
 have rx:=aAm hg hx;have ry:=aAm hg hy;simp only[aAf,vbin]at h;split at h
 .rename_i k p k' q hp hq;obtain⟨hk,h⟩:=h;rw[hp]at rx;rw[hq]at ry;by_cases hsh:op=.shr
  .subst hsh;simp only[vint]at h;refine aA1 hg hd hn (x:=.int k (vshr k p q)) (v:=.int k (vshr k p q)) ?_ (.int _ _) h.2;simp only[execOp,ho,aCe rx,aCe ry];rw[aD8,Sem.run_bind,aBw _ _ _ _ _ _ rfl,Result.andThen_ok,bBi k k' t p q h.1];rfl
  .obtain rfl:=hk.resolve_left hsh;obtain⟨z,hz,r,hr,hK⟩:=bCo (P:=P) (G:=G) (D:=Dp D s.L G) (w:=w) op k t p q _ h;refine aA1 hg hd hn (x:=r) (v:=z) ?_ hr hK;simp only[execOp,ho,aCe rx,aCe ry];rw[aD8,Sem.run_bind,aBw _ _ _ _ _ _ rfl,Result.andThen_ok,hz];rfl
 .rename_i p q hp hq;rw[hp]at rx;rw[hq]at ry;obtain⟨z,hz,r,hr,hK⟩:=bD4 (P:=P) (G:=G) (D:=Dp D s.L G) (w:=w) op t p q _ h;refine aA1 hg hd hn (x:=r) (v:=z) ?_ hr hK;simp only[execOp,ho,(aEk rx).1,(aEk ry).1];rw[aD8,Sem.run_bind,aBw _ _ _ _ _ _ rfl,Result.andThen_ok,hz];rfl
 grind
theorem aH4{op:BinOp}{t:TypeId}(hop:op=.eql∨op=.neq){u v:Value}{b:Bool}(h:(Op.equalIn 10000 t u v).run P w=.ok b w)(hu:∀k p,u≠.int k p)(hf:∀k p,u≠.float k p)(hc:∀k p q,u≠.complex k p q)(hs:∀p,u≠.string p):
 (binOp op t u v).run P w=.ok (.bool (b != (op==.neq))) w:=by
 rcases hop with rfl|rfl
 .have e:binOp .eql t u v=(do pure (.bool (<-Op.equal t u v))):=by
   cases u<;>first|rfl|grind|grind|grind|grind
  rw[e];simp only[Op.equal,Op.maxDepth,Sem.run_bind,h,Result.andThen_ok,Sem.run_pure];cases b<;>rfl
 .have e:binOp .neq t u v=(do pure (.bool (!(<-Op.equal t u v)))):=by
   cases u<;>first|rfl|grind|grind|grind|grind
  rw[e];simp only[Op.equal,Op.maxDepth,Sem.run_bind,h,Result.andThen_ok,Sem.run_pure];simp
theorem bU2(hd:aA5 n o.dst=true){op:BinOp}{t t':TypeId}{x y:Operand}{x' y':Src}(hx:opd n x=some x')(hy:opd n y=some y')(hop:op=.eql∨op=.neq)
 (ht:P.underlying t=some .bool) (ho:o.op=.binOp op t x y t'):aBc P D n o (.eqB o.dst (op==.neq) x' y'):=by
 intro s G a w K next Q h hg hn hfree
 have rx:=aAm hg hx;have ry:=aAm hg hy;simp only[aAf]at h;split at h
 .rename_i p q hp hq;rw[hp]at rx;rw[hq]at ry;refine aA1 hg hd hn (x:=.bool ((p==q) != (op==.neq))) (v:=.bool ((p==q) != (op==.neq))) ?_ (.bool _) h;simp only[execOp,ho,aDr rx,aDr ry];rw[aD8,Sem.run_bind,aBw _ _ _ _ _ _ rfl,Result.andThen_ok,
   aH4 hop (run_equalIn_bool w 9999 t p q ht) (by simp) (by simp) (by simp) (by simp)]
  rfl
 grind
theorem bNa(m:Nat){t e:TypeId}(hu:P.underlying t=some (.pointer e))(v:Option Addr):(Op.equalIn (m+1) t (.pointer v) (.pointer none)).run P w=.ok v.isNone w:=by
 cases v<;>simp[Op.equalIn,run_underlying hu]
theorem bP6(m:Nat){t e:TypeId}(hu:P.underlying t=some (.slice e))(v:Option Addr)(l c:Nat):(Op.equalIn (m+1) t (.slice v l c) (.slice none 0 0)).run P w=.ok v.isNone w:=by
 cases v<;>simp[Op.equalIn,run_underlying hu]
theorem bM2(m:Nat){t k e:TypeId}(hu:P.underlying t=some (.map k e))(v:Option Nat):(Op.equalIn (m+1) t (.map v) (.map none)).run P w=.ok v.isNone w:=by
 cases v<;>simp[Op.equalIn,run_underlying hu]
theorem aJ6(hg:Good P D n s G a w)(hd:aA5 n o.dst=true)(hn:∀s' G' a' w',K s'->Good P D n s' G' a' w'->Nxt s.L G w s'.L G' w'->New m s G s' G'->next a' w')
 {op:BinOp} {t t':TypeId} {x y:Operand} (hop:op=.eql∨op=.neq) (ho:o.op=.binOp op t x y t') (b:Bool) (hr:(Op.equalIn 10000 t (a.eval x) (a.eval y)).run P w=.ok b w)
 (h1:∀k p,a.eval x≠.int k p) (h2:∀k p,a.eval x≠.float k p) (h3:∀k p q,a.eval x≠.complex k p q) (h4:∀p,a.eval x≠.string p)
 (h5:(match a.eval x with|.nilIface|.agg _=>false|_=>true)=true) (hK:K (s.setO o.dst (.bool (b != (op==.neq))))):o.upon P a next Q ((execOp a.eval o).run P w):=by
 refine aA1 hg hd hn (x:=.bool (b != (op==.neq))) (v:=.bool (b != (op==.neq))) ?_ (.bool _) hK;simp only[execOp,ho];rw[aD8,Sem.run_bind,aBw _ _ _ _ _ _ h5,Result.andThen_ok,aH4 hop hr h1 h2 h3 h4];rfl
theorem bFo(hd:aA5 n o.dst=true){op:BinOp}{t t' e:TypeId}{x:Operand}{x':Src}(hx:opd n x=some x')(hop:op=.eql∨op=.neq)
 (ht:P.underlying t=some (.pointer e)) (ho:o.op=.binOp op t x (.const (.pointer none)) t'):aBc P D n o (.isnil o.dst (op==.neq) 0 x'):=by
 intro s G a w K next Q h hg hn hfree
 have rx:=aAm hg hx;simp only[aAf]at h;have fin:∀v,a.eval x=.pointer v->K (s.setO o.dst (.bool (v.isNone != (op==.neq))))->o.upon P a next Q ((execOp a.eval o).run P w):=λv hv hK=>aJ6 hg hd hn hop ho v.isNone (by rw[hv];exact bNa 9999 ht v) (by grind) (by grind) (by grind) (by grind) (by grind) hK
 generalize he:s.ev x'=X at h rx;generalize hv:a.eval x=Y at rx;cases rx<;>first
  | grind
  | grind
theorem bCj(hd:aA5 n o.dst=true){op:BinOp}{t t' e:TypeId}{x:Operand}{x':Src}(hx:opd n x=some x')(hop:op=.eql∨op=.neq)
 (ht:P.underlying t=some (.slice e)) (ho:o.op=.binOp op t x (.const (.slice none 0 0)) t'):aBc P D n o (.isnil o.dst (op==.neq) 1 x'):=by
 intro s G a w K next Q h hg hn hfree
 have rx:=aAm hg hx;simp only[aAf]at h;have fin:∀v l c,a.eval x=.slice v l c->K (s.setO o.dst (.bool (v.isNone != (op==.neq))))->o.upon P a next Q ((execOp a.eval o).run P w):=λv l c hv hK=>aJ6 hg hd hn hop ho v.isNone (by rw[hv];exact bP6 9999 ht v l c) (by grind) (by grind) (by grind) (by grind) (by grind) hK
 generalize he:s.ev x'=X at h rx;generalize hv:a.eval x=Y at rx;cases X<;>first
  | (exact h.elim)
  | skip
 .rw[aDu rx]at hv;grind
 .obtain⟨z,cap,b,q,rfl,_,_,ha,_⟩:=aEq rx;grind
 .obtain⟨g,z,cap,rfl,_,_,h1,_,_,ha⟩:=aDy rx;grind
theorem bFx(hd:aA5 n o.dst=true){op:BinOp}{t t' k e:TypeId}{x:Operand}{x':Src}(hx:opd n x=some x')(hop:op=.eql∨op=.neq)
 (ht:P.underlying t=some (.map k e)) (ho:o.op=.binOp op t x (.const (.map none)) t'):aBc P D n o (.isnil o.dst (op==.neq) 2 x'):=by
 intro s G a w K next Q h hg hn hfree
 have rx:=aAm hg hx;simp only[aAf]at h;have fin:∀v,a.eval x=.map v->K (s.setO o.dst (.bool (v.isNone != (op==.neq))))->o.upon P a next Q ((execOp a.eval o).run P w):=λv hv hK=>aJ6 hg hd hn hop ho v.isNone (by rw[hv];exact bM2 9999 ht v) (by grind) (by grind) (by grind) (by grind) (by grind) hK
 generalize he:s.ev x'=X at h rx;generalize hv:a.eval x=Y at rx;cases rx<;>first
  | grind
  | grind
theorem s_un(hd:aA5 n o.dst=true){op:UnOp}{t:TypeId}{x:Operand}{x':Src}(hx:opd n x=some x')(ho:o.op=.unOp op t x):aBc P D n o (.un o.dst op x'):=by
 intro s G a w K next Q h hg hn hfree
 have rx:=aAm hg hx;simp only[aAf,vun]at h;split at h
 .rename_i b hb;rw[hb]at rx;refine aA1 hg hd hn (x:=.bool !b) (v:=.bool !b) ?_ (.bool _) h;simp[execOp,ho,aDr rx,Op.unary]
 .rename_i k m hb;rw[hb]at rx;refine aA1 hg hd hn (x:=.int k (k.wrap (0-m))) (v:=.int k (k.wrap (0-m))) ?_ (.int _ _) h;simp[execOp,ho,aCe rx,Op.unary,Op.intArith]
 grind
theorem bVp(hd:aA5 n o.dst=true){t u:TypeId}{k k0:IntKind}{x:Operand}{x':Src}(hx:opd n x=some x')(ht:P.underlying t=some (.int k0))(hu:P.underlying u=some (.int k))(ho:o.op=.convert t u x):aBc P D n o (.cvt o.dst k x'):=by
 intro s G a w K next Q h hg hn hfree
 have rx:=aAm hg hx;simp only[aAf]at h;split at h
 .rename_i k1 m hb;rw[hb]at rx;refine aA1 hg hd hn (x:=.int k (k.wrap m)) (v:=.int k (k.wrap m)) ?_ (.int _ _) h;simp[execOp,ho,aCe rx,convert,run_underlying ht,run_underlying hu,Conv.intToInt]
 grind
theorem bSb(hd:aA5 n o.dst=true){t u:TypeId}{x:Operand}{x':Src}(hx:opd n x=some x')(ht:P.underlying t=some .string)(hu:P.underlying u=some .string)(ho:o.op=.convert t u x):aBc P D n o (.cvs o.dst x'):=λ_ _ _ _ _ _ _ h=>False.elim h
theorem bVw(hd:aA5 n o.dst=true){i:Nat}{x:Operand}{x':Src}(hx:opd n x=some x')(ho:o.op=.extract x i):aBc P D n o (.ext o.dst i x'):=by
 intro s G a w K next Q h hg hn hfree
 have rx:=aAm hg hx;simp only[aAf]at h;split at h
 .rename_i cs hb;rw[hb]at rx;obtain⟨vs,ev,hl,hr⟩:=aQ0 rx;obtain⟨h1,h2⟩:=h;refine aA1 hg hd hn (x:=cs.getD i .junk) (v:=vs.getD i undef) ?_ (hr i _ (by grind)) h2;have hi:i<vs.size:=hl▸h1;simp[execOp,ho,ev,Instr.extract,hi,zo]
 grind
theorem bVl(hd:aA5 n o.dst=true){t:TypeId}{x i:Operand}{x' i':Src}(hx:opd n x=some x')(hi:opd n i=some i')(ht:P.underlying t=some .string)(ho:o.op=.index t x i):aBc P D n o (.idx o.dst x' i'):=by
 intro s G a w K next Q h hg hn hfree
 have rx:=aAm hg hx;have ri:=aAm hg hi;simp only[aAf]at h;split at h
 .rename_i u k m hb hc;rw[hb]at rx;rw[hc]at ri;obtain⟨h1,h2,h3⟩:=h;refine aA1 hg hd hn (x:=.int .u8 (u.getD m.toNat 0).toNat) (v:=.int .u8 (u.getD m.toNat 0).toNat) ?_ (.int _ _) h3;have e:(⟨u.toArray⟩:ByteArray)[m.toNat]?=some (u.getD m.toNat 0):=by
   have h4:m.toNat<(⟨u.toArray⟩:ByteArray).size:=by simpa[ByteArray.size]using h2
   rw[getElem?_pos (⟨u.toArray⟩:ByteArray) m.toNat h4];simp[ByteArray.getElem_eq_getElem_data,h2]
  simp[execOp,ho,(aEk rx).1,aCe ri,Instr.index,asIntOf,run_underlying ht,h1,e]
 grind
theorem bNm(hd:aA5 n o.dst=true){t:TypeId}{x:Operand}{lo hi:Option Operand}{x':Src}{lo' hi':Option Src}(hx:opd n x=some x')(hlo:opdO n lo=some lo')(hhi:opdO n hi=some hi')
 (ht:P.underlying t=some .string) (ho:o.op=.slice t x lo hi none):aBc P D n o (.slcS o.dst x' lo' hi'):=by
 intro s G a w K next Q h hg hn hfree
 have rx:=aAm hg hx;simp only[aAf]at h;split at h
 .rename_i u hb;rw[hb]at rx;obtain⟨l,hh,h1,h2,h3,h4⟩:=aGh (P:=P) false u.length u.length hlo hhi hg (zz _) h;have hz:(⟨u.toArray⟩:ByteArray).size=u.length:=by rfl
  refine aA1 hg hd hn (x:=.str ((u.take hh).drop l)) (v:=.string ⟨((u.take hh).drop l).toArray⟩) ?_ (.str _ ?_) h3
  .rw[<-hz]at h4;simp only[execOp,ho,(aEk rx).1];rw[aD8];simp only[Instr.sliceAt,Sem.run_bind,run_underlying ht,Result.andThen_ok,Instr.slice,Option.map_none,Option.isSome_none,zK,if_false,Sem.run_pure,h4,aMf]
  .have:=(aEk rx).2;grind
 grind
theorem aZy{c:Call}{x:Operand}(hc:c.callee=.builtin .len)(ha:c.args.toList=[x])(ho:o.op=.call c):
 (execOp a.eval o).run P w=((Builtin.len_ c.argTypes o.type #[a.eval x]).run P w).andThen λx w'=>.ok (.value x) w':=by
 have ha':c.args=#[x]:=by grind
 simp only[execOp,ho,resolve,hc,ha'];simp[invoke,builtin]
theorem bNi(hd:aA5 n o.dst=true){c:Call}{x:Operand}{x':Src}(hx:opd n x=some x')(hc:c.callee=.builtin .len)(ha:c.args.toList=[x])(hat:(c.argTypes[0]?).bind P.underlying=some .string)
 (ho:o.op=.call c):aBc P D n o (.len o.dst true x'):=by
 intro s G a w K next Q h hg hn hfree
 have rx:=aAm hg hx;obtain⟨t,ht,hu⟩:=yN.1 hat;simp only[aAf]at h;split at h
 .rename_i u _ hb;rw[hb]at rx;obtain⟨e,hl⟩:=aEk rx;refine aA1 hg hd hn (x:=.int .i64 u.length) (v:=.int .i64 u.length) ?_ (.int _ _) h;have hz:(⟨u.toArray⟩:ByteArray).size=u.length:=by rfl
  rw[aZy hc ha ho,e];simp[Builtin.len_,ht,run_underlying hu,goInt,hz]
 all_goals grind
theorem bOa(hd:aA5 n o.dst=true){c:Call}{x:Operand}{x':Src}(hx:opd n x=some x')(hc:c.callee=.builtin .len)(ha:c.args.toList=[x]){e:TypeId}(hat:(c.argTypes[0]?).bind P.underlying=some (.slice e))
 (ho:o.op=.call c):aBc P D n o (.len o.dst false x'):=by
 intro s G a w K next Q h hg hn hfree
 have rx:=aAm hg hx;obtain⟨t,ht,hu⟩:=yN.1 hat;have fin:∀b m c,a.eval x=.slice b m c->K (s.setO o.dst (.int .i64 m))->o.upon P a next Q ((execOp a.eval o).run P w):=by intro b m cp hv hK;refine aA1 hg hd hn (x:=.int .i64 m) (v:=.int .i64 m) ?_ (.int _ _) hK;rw[aZy hc ha ho,hv];simp[Builtin.len_,ht,run_underlying hu,goInt]
 simp only[aAf]at h;generalize he:s.ev x'=X at h rx;generalize hv:a.eval x=Y at rx;cases X<;>first
  | (exact h.elim)
  | skip
 .rw[aDu rx]at hv;grind
 .obtain⟨z,cap,b,q,rfl,h1,h2,_⟩:=aEq rx;grind
 .obtain⟨g,z,cap,rfl,_,_,h1,h2,h3,_⟩:=aDy rx;grind
theorem bOz(hd:aA5 n o.dst=true){x:Operand}{x':Src}(hx:opd n x=some x')(ho:o.op=.nilCheck x):aBc P D n o (.nchk o.dst x'):=by
 intro s G a w K next Q h hg hn hfree
 have rx:=aAm hg hx;have fin:∀p,a.eval x=.pointer (some p)->K (s.setO o.dst (s.ev x'))->o.upon P a next Q ((execOp a.eval o).run P w):=by intro p hv hK;refine aA1 hg hd hn (x:=s.ev x') (v:=a.eval x) ?_ rx hK;simp only[execOp,ho,hv];rfl
 have finf:∀f vs,a.eval x=.func (.func f) #[] vs->K (s.setO o.dst (s.ev x'))->o.upon P a next Q ((execOp a.eval o).run P w):=by intro f vs hv hK;refine aA1 hg hd hn (x:=s.ev x') (v:=a.eval x) ?_ rx hK;simp only[execOp,ho,hv];rfl
 simp only[aAf]at h;generalize he:s.ev x'=X at h rx fin finf;generalize hv:a.eval x=Y at rx fin finf;cases X<;>first
  | (exact h.elim)
  | skip
 .obtain⟨g,_,rfl⟩:=aFw rx;grind
 .obtain⟨g,_,rfl⟩:=aJa rx;grind
 .obtain⟨b,q,rfl,_⟩:=aNa rx;grind
 .obtain⟨vs,rfl,_⟩:=aOr rx;grind
theorem bNe(hd:aA5 n o.dst=true){t:TypeId}{f:Nat}{fd:Field}{z:Nat}{x:Operand}{x':Src}(hx:opd n x=some x')(hf:aGi P t f=some fd)(hz:szOf P fd.type=some z)(h0:0<z)(ho:o.op=.fieldAddr t x f):
 aBc P D n o (.fadr o.dst fd.offset x'):=by
 intro s G a w K next Q h hg hn hfree
 have rx:=aAm hg hx;obtain⟨fs,hu,hfs⟩:=aIu hf;have fin:∀b q X,a.eval x=.pointer (some ⟨b,q,none⟩)->Rep G (Dp D s.L G) w X (.pointer (some ⟨b,q+fd.offset,none⟩))->K (s.setO o.dst X)->o.upon P a next Q ((execOp a.eval o).run P w):=by intro b q X hv hX hK;refine aA1 hg hd hn (x:=X) (v:=.pointer (some ⟨b,q+fd.offset,none⟩)) ?_ hX hK;simp only[execOp,ho,hv,aD8];simp[Instr.fieldAt,run_underlying hu,hfs,Instr.sureAddr,fieldPlace,aEc hz,Nat.pos_iff_ne_zero.1 h0,aFe]
 simp only[aAf]at h;generalize he:s.ev x'=X at h rx;generalize hv:a.eval x=Y at rx fin;cases X<;>first
  | (exact h.elim)
  | skip
 .obtain⟨g,hG,rfl⟩:=aFw rx;exact fin _ _ _ rfl (by rw[xA];exact .ptr _ _ g hG) h
 .obtain⟨g,hG,rfl⟩:=aJa rx;exact fin _ _ _ rfl (by rw[xA];exact .eptr _ _ _ g hG) h
 .obtain⟨b,q,rfl,h1,h2,h3,h4⟩:=aNa rx;refine fin _ _ _ rfl (.cptr _ _ _ h1 h2 (λj c hc=>?_) (λj c hc=>?_)) h
  .grind
  grind
end
end Go.Ab
namespace Go.Ab
open Go.RowKit
section
variable {P:Program} {D:Nat->Prop} {n:Nat} {hint:Nat->Nat} {s:St} {G:Ghost} {a:Act} {w:World} {o:Oper} {K:St->Prop} {next:Act->World->Prop} {Q:Exit->Act->World->Prop} {m:Option Nat}
theorem aJc{G:Ghost}{D:Nat->Prop}{cs:List V}{vs:Array Value}(hl:cs.length=vs.size)(hr:∀i c,cs[i]?=some c->Rep G D w c (vs.getD i undef)){off z:Nat}{ag:Bool}(h:off+z<=cs.length)(h1:ag=true∨z=1):
 Rep G D w (pack ag ((cs.drop off).take z)) (if ag then .agg (vs.extract off (off+z))else vs.getD off undef):=by
 cases ag with
 | true =>
   simp only[pack,if_true];refine .agg _ _ (by grind) λi c hc=>?_;have hi:i<z:=by grind
   rw[List.getElem?_take_of_lt hi]at hc;have hc':cs[off+i]?=some c:=by grind
   have h3:=hr _ _ hc';have h4:off+i<vs.size:=by omega
   simp_all
 | false =>
   have h1:z=1:=by grind
   subst h1;simp only[pack,zK,if_false];have h2:off<cs.length:=by omega
   have h3:=hr off cs[off] (by simp);have h4:((cs.drop off).take 1).headD .junk=cs[off]:=by rw[List.drop_eq_getElem_cons h2];rfl
   grind
theorem aJh{t:TypeId}{ag:Bool}{z off:Nat}{vs:Array Value}(hz:szOf P t=some z)(ha:aEn P t=some ag)(h1:ag=true∨z=1)(h:off+z<=vs.size):
 (part t vs off).run P w=.ok (if ag then .agg (vs.extract off (off+z))else vs.getD off undef) w:=by
 simp only[part,Sem.run_bind,aO0 ha,Result.andThen_ok];cases ag with
 | true=>simp[aEc hz]
 | false =>
   have h1:z=1:=by grind
   subst h1;have h2:off<vs.size:=by omega
   simp_all
theorem bMf(hd:aA5 n o.dst=true){t:TypeId}{f:Nat}{fd:Field}{z:Nat}{ag:Bool}{x:Operand}{x':Src}(hx:opd n x=some x')(hf:aGi P t f=some fd)(hz:szOf P fd.type=some z)(ha:aEn P fd.type=some ag)
 (h1:ag=true∨z=1) (ho:o.op=.field t x f):aBc P D n o (.field o.dst fd.offset z ag x'):=by
 intro s G a w K next Q h hg hn hfree
 have rx:=aAm hg hx;obtain⟨fs,hu,hfs⟩:=aIu hf;simp only[aAf]at h;split at h
 .rename_i cs hb;rw[hb]at rx;obtain⟨vs,ev,hl,hr⟩:=aFx rx;refine aA1 hg hd hn (x:=pack ag ((cs.drop fd.offset).take z)) (v:=if ag then .agg (vs.extract fd.offset (fd.offset+z))else vs.getD fd.offset undef) ?_ (aJc hl hr h.1 h1) h.2;simp only[execOp,ho,ev,aD8];simp[Instr.field,run_underlying hu,hfs,asAgg,aJh hz ha h1 (hl▸h.1)]
 grind
theorem bM1(hd:aA5 n o.dst=true){t e:TypeId}{m z:Nat}{ag:Bool}{x i:Operand}{x' i':Src}(hx:opd n x=some x')(hi:opd n i=some i')(hu:P.underlying t=some (.array m e))(hz:szOf P e=some z)(ha:aEn P e=some ag)
 (h1:ag=true∨z=1) (ho:o.op=.index t x i):aBc P D n o (.idxA o.dst m z ag x' i'):=by
 intro s G a w K next Q h hg hn hfree
 have rx:=aAm hg hx;have ri:=aAm hg hi;simp only[aAf]at h;split at h
 .rename_i cs k j hb hc;rw[hb]at rx;rw[hc]at ri;obtain⟨vs,ev,hl,hr⟩:=aFx rx;obtain⟨p1,p2,p3,p4⟩:=h;have hfit:j.toNat*z+z<=cs.length:=by
   have:(j.toNat+1)*z<=m*z:=Nat.mul_le_mul_right _ (by omega);grind
  refine aA1 hg hd hn (x:=pack ag ((cs.drop (j.toNat*z)).take z)) (v:=if ag then .agg (vs.extract (j.toNat*z) (j.toNat*z+z))else vs.getD (j.toNat*z) undef) ?_ (aJc hl hr hfit h1) p4;simp only[execOp,ho,ev,aCe ri,aD8];simp[Instr.index,asIntOf,run_underlying hu,p1,p2,aEc hz,aJh hz ha h1 (hl▸hfit)]
 grind
theorem bOg(hd:aA5 n o.dst=true){t e:TypeId}{z:Nat}{x i:Operand}{x' i':Src}(hx:opd n x=some x')(hi:opd n i=some i')(hu:P.underlying t=some (.slice e))(hz:szOf P e=some z)
 (h0:0<z) (ho:o.op=.indexAddr t x i):aBc P D n o (.iadr o.dst z x' i'):=by
 intro s G a w K next Q h hg hn hfree
 have rx:=aAm hg hx;have ri:=aAm hg hi;have fin:∀b q l c k j X,a.eval x=.slice (some ⟨b,q,none⟩) l c->a.eval i=.int k j->0<=j->j.toNat<l->Rep G (Dp D s.L G) w X (.pointer (some ⟨b,q+j.toNat*z,none⟩))->K (s.setO o.dst X) ->
  o.upon P a next Q ((execOp a.eval o).run P w):=by
  intro b q l c k j X hv hw p1 p2 hX hK;refine aA1 hg hd hn (x:=X) (v:=.pointer (some ⟨b,q+j.toNat*z,none⟩)) ?_ hX hK;have p3:j<l:=by omega
  simp only[execOp,ho,hv,hw,aD8];simp[Instr.indexAt,asIntOf,run_underlying hu,p1,p3,aEc hz,aFe]
 simp only[aAf]at h;split at h
 .rename_i sz' es k j hb hc;rw[hb]at rx;rw[hc]at ri;obtain⟨rfl,p1,p2,p3⟩:=h;obtain⟨a0,cap,b,q,ev,_,_,r1,r2,r3,r4⟩:=aEq rx;obtain⟨rfl,r5,r6⟩:=r1 (by omega);have he:es[j.toNat]?=some (es.getD j.toNat .junk):=by grind
  refine fin _ _ _ _ _ _ _ ev (aCe ri) p1 p2 (.cptr _ _ _ r5 r6 (λm c hc=>?_) (λm c hc=>?_)) p3
  .grind
  grind
 .rename_i id sz' off len k j hb hc;rw[hb]at rx;rw[hc]at ri;obtain⟨rfl,p1,p2,p3⟩:=h;obtain⟨g,a0,cap,ev,r1,r2,r3,r4,r5,r6⟩:=aDy rx;obtain rfl:=r6 (by omega);have e1:g.off+off*sz'+j.toNat*sz'=g.off+(off+j.toNat)*g.sz+0:=by grind
  exact fin _ _ _ _ _ _ _ ev (aCe ri) p1 p2 (by rw[e1];exact .eptr _ _ _ g r1) p3
 grind
theorem bKt(hd:aA5 n o.dst=true){t e:TypeId}{m z:Nat}{x i:Operand}{x' i':Src}(hx:opd n x=some x')(hi:opd n i=some i')(hu:P.underlying t=some (.array m e))(hz:szOf P e=some z)
 (ho:o.op=.indexAddr t x i):aBc P D n o (.iadrA o.dst m z x' i'):=λ_ _ _ _ _ _ _ h=>False.elim h
theorem aTq{es:List V}{l h i j:Nat}{c:V}(hh:((((es.take h).drop l)[i]?).bind λe=>e.cells[j]?)=some c):((es[l+i]?).bind λe=>e.cells[j]?)=some c:=by
 grind
theorem bLq{sz:Nat}{es:List V}{a0:Option Addr}{cap l h:Nat}{G:Ghost}{D:Nat->Prop}(hr:Rep G D w (.lst sz es) (.slice a0 es.length cap))(h1:l<=h)(h2:h<=es.length):
 Rep G D w (.lst sz ((es.take h).drop l)) (.slice (if cap=l then a0 else a0.map (·.add (l*sz))) (h-l) (cap-l)):=by
 obtain⟨a1,cap',b,q,ev,r1,r2,r3,r4,r5,r6⟩:=aEq hr;simp only[Value.slice.injEq,true_and]at ev;obtain⟨rfl,rfl⟩:=ev;have hlen:((es.take h).drop l).length=h-l:=by grind
 have key:Rep G D w (.lst sz ((es.take h).drop l)) (.slice (if cap=l then a0 else a0.map (·.add (l*sz))) ((es.take h).drop l).length (cap-l)):=by
  refine .lst _ _ _ _ b (q+l*sz) (by omega) (by omega) (λh0=>?_) (λe he=>r4 e (List.mem_of_mem_take (List.mem_of_mem_drop he))) (λi j c hc=>?_) (λi j c hc=>?_)
  .obtain⟨rfl,k2,k3⟩:=r3 (by omega);rw[if_neg (by omega)];exact⟨by simp[aFe],k2,k3⟩
  .have:=r5 _ _ _ (aTq hc);grind
  .have:=r6 _ _ _ (aTq hc);grind
 grind
theorem bV2(hd:aA5 n o.dst=true){t e:TypeId}{z:Nat}{x:Operand}{lo hi:Option Operand}{x':Src}{lo' hi':Option Src}(hx:opd n x=some x')(hlo:opdO n lo=some lo')(hhi:opdO n hi=some hi')
 (hu:P.underlying t=some (.slice e)) (hz:szOf P e=some z) (ho:o.op=.slice t x lo hi none):aBc P D n o (.slc o.dst z x' lo' hi'):=by
 intro s G a w K next Q h hg hn hfree
 have rx:=aAm hg hx;have fin:∀b len cap l h X,a.eval x=.slice b len cap->(Instr.sliceBounds true len cap (lo.map a.eval) (hi.map a.eval) none).run P w=.ok (l,h,cap) w ->
  Rep G (Dp D s.L G) w X (.slice (if cap=l then b else b.map (·.add (l*z))) (h-l) (cap-l))->K (s.setO o.dst X)->o.upon P a next Q ((execOp a.eval o).run P w):=by
  intro b len cap l h X hv hb hX hK;refine aA1 hg hd hn (x:=X) ?_ hX hK;simp only[execOp,ho,hv,aD8];simp[Instr.sliceAt,run_underlying hu,Instr.slice,hb,aEc hz]
 simp only[aAf]at h;split at h
 .rename_i hb;rw[hb]at rx;obtain⟨l,h',h1,h2,h3,h4⟩:=aGh (P:=P) true 0 0 hlo hhi hg (zz _) h;have e1:l=0:=by omega
  have e2:h'=0:=by omega
  subst e1 e2;exact fin _ _ _ _ _ _ (aDu rx) h4 .nils h3
 .rename_i sz' es hb;rw[hb]at rx;obtain⟨rfl,h⟩:=h;obtain⟨a0,cap,b,q,ev,r1,_⟩:=aEq rx;rw[ev]at rx;obtain⟨l,h',h1,h2,h3,h4⟩:=aGh (P:=P) true es.length cap hlo hhi hg r1 h;exact fin _ _ _ _ _ _ ev h4 (bLq rx h1 h2) h3
 .rename_i id sz' off m hb;rw[hb]at rx;obtain⟨rfl,h⟩:=h;obtain⟨g,a0,cap,ev,r1,r2,r3,r4,r5,r6⟩:=aDy rx;obtain⟨l,h',h1,h2,h3,h4⟩:=aGh (P:=P) true m cap hlo hhi hg r3 h;refine fin _ _ _ _ _ _ ev h4 (.own _ _ _ _ g _ _ r1 r2 (by omega) (by omega) r5 λh0=>?_) h3;rw[if_neg (by omega),r6 (by omega)];simp[aFe,Nat.add_mul,xA]
 grind
theorem s_mx(hd:aA5 n o.dst=true){isMax:Bool}{c:Call}{x y:Operand}{x' y':Src}(hx:opd n x=some x')(hy:opd n y=some y')(hc:c.callee=.builtin (if isMax then .max else .min))(ha:c.args.toList=[x,y])
 (ho:o.op=.call c):aBc P D n o (.mx o.dst isMax x' y'):=by
 intro s G a w K next Q h hg hn hfree
 have rx:=aAm hg hx;have ry:=aAm hg hy;have ha':c.args=#[x,y]:=by grind
 simp only[aAf]at h;split at h
 .rename_i k p k' q hb hc';rw[hb]at rx;rw[hc']at ry;obtain⟨rfl,h⟩:=h;refine aA1 hg hd hn ?_ (.int _ _) h;simp only[execOp,ho,resolve,hc,ha'];cases isMax<;>simp[invoke,builtin,Builtin.max_,Builtin.min_,Builtin.max2,Builtin.min2,aCe rx,aCe ry,mxI]
 grind
theorem bPd(hd:aA5 n o.dst=true){isMax:Bool}{c:Call}{x y z:Operand}{x' y' z':Src}(hx:opd n x=some x')(hy:opd n y=some y')(hz:opd n z=some z')(hc:c.callee=.builtin (if isMax then .max else .min))(ha:c.args.toList=[x,y,z])
 (ho:o.op=.call c):aBc P D n o (.mx3 o.dst isMax x' y' z'):=λ_ _ _ _ _ _ _ h=>False.elim h
end
end Go.Ab
namespace Go.Ab
open Go.RowKit
def RepC(G:Ghost)(D:Nat->Prop)(w:World)(cs:List V)(vs:Array Value):Prop:=cs.length=vs.size∧∀i c,cs[i]?=some c->Rep G D w c (vs.getD i undef)
section
variable {P:Program} {D:Nat->Prop} {n:Nat} {hint:Nat->Nat} {s:St} {G:Ghost} {a:Act} {w:World} {o:Oper} {K:St->Prop} {next:Act->World->Prop} {Q:Exit->Act->World->Prop} {m:Option Nat}
theorem aQ5{x:V}{v:Value}(h:Rep G D w x v)(h1:x.one=true):v.oneCell'=true∧v.cells=#[v]∧x.cells=[x]:=by
 cases h<;>simp[V.one]at h1<;>first
  | exact⟨rfl,rfl,rfl⟩
  | (refine⟨h1,?_,rfl⟩;cases v<;>first|rfl|simp[Value.oneCell']at h1)
theorem aFn{x:V}{v:Value}{k:Nat}(h:Rep G D w x v)(hk:x.ncells=some k):RepC G D w x.cells v.cells∧x.cells.length=k∧∀u∈v.cells.toList,u.oneCell'=true:=by
 unfold V.ncells at hk;split at hk
 .rename_i cs;split at hk
  .rename_i hall;simp only[za]at hk;obtain⟨vs,rfl,hl,hr⟩:=aFx h;refine⟨⟨hl,hr⟩,hk,λu hu=>?_⟩;obtain⟨i,hi,rfl⟩:=List.mem_iff_getElem.1 hu;simp only[Value.cells,Array.length_toList]at hi;have hc:i<cs.length:=by omega
   have:=hr i cs[i] (by simp);have h1:=zx.1 hall cs[i] (by simp);have h2:=(aQ5 this h1).1;simpa[zo,hi,Value.cells]using h2
  grind
 .split at hk
  .rename_i h1;simp only[za]at hk;obtain⟨e1,e2,e3⟩:=aQ5 h h1;rw[e2,e3];refine⟨⟨rfl,λi c hc=>?_⟩,hk,λu hu=>?_⟩
   .match i,hc with
    | 0,hc=>simp at hc;subst hc;exact h
   grind
  grind
theorem aEf{zero:List V}{off:Nat}{cs:List V}(h:off+cs.length<=zero.length):(aB3 zero off cs).length=zero.length:=by
 simp[aB3];omega
theorem aK8{zero:List V}{off:Nat}{cs:List V}(h:off+cs.length<=zero.length)(i:Nat):
 (aB3 zero off cs)[i]?=if off<=i∧i<off+cs.length then cs[i-off]? else zero[i]?:=by
 unfold aB3;by_cases h1:i<off
 .grind
 grind
theorem aKd(off:Nat):∀(l:List Value) (k:Nat) (cells:Array Value),off+k+l.length<=cells.size ->
 ((l.zipIdx k).foldl (λcs (x:Value×Nat)=>cs.setIfInBounds (off+x.2) x.1) cells).size=cells.size ∧
 ∀i,((l.zipIdx k).foldl (λcs (x:Value×Nat)=>cs.setIfInBounds (off+x.2) x.1) cells).getD i undef=if off+k<=i∧i<off+k+l.length then l.getD (i-off-k) undef else cells.getD i undef
 | [],k,cells,_=>by simp;omega
 | v::r,k,cells,h=>by
   obtain⟨h1,h2⟩:=aKd off r (k+1) (cells.setIfInBounds (off+k) v) (by grind);simp only[List.zipIdx_cons,List.foldl_cons];refine⟨by grind,λi=>?_⟩;rw[h2];simp only[List.length_cons]at h ⊢;by_cases e:i=off+k
   .subst e;rw[if_neg (by omega),if_pos (by omega)];simp[zo,Array.getElem?_setIfInBounds_self_of_lt (show off+k<cells.size by omega)]
   .by_cases h3:off+(k+1)<=i∧i<off+(k+1)+r.length
    .grind
    .rw[if_neg h3,if_neg (by omega)];have hne:off+k≠i:=λh=>e h.symm;simp_all
theorem bEk{cs xs:List V}{cells vs:Array Value}{off:Nat}(h:RepC G D w cs cells)(hx:RepC G D w xs vs)(hf:off+xs.length<=cs.length):
 RepC G D w (aB3 cs off xs) (vs.zipIdx.foldl (λcs (x:Value×Nat)=>cs.setIfInBounds (off+x.2) x.1) cells):=by
 obtain⟨h1,h2⟩:=aKd off vs.toList 0 cells (by simp[<-hx.1,<-h.1];omega);rw[<-Array.foldl_toList,Array.toList_zipIdx];refine⟨by rw[aEf hf,h1,h.1],λi c hc=>?_⟩;rw[h2,Nat.add_zero];rw[aK8 hf]at hc;have e:vs.toList.length=xs.length:=by simp[hx.1]
 rw[e];split at hc
 .rename_i hi;rw[if_pos hi];have:=hx.2 _ _ hc;simp_all
 .rename_i hi;rw[if_neg hi];exact h.2 _ _ hc
theorem aI1:∀{l:List Value} {cs:List V},aC9 l=some cs->RepC G D w cs l.toArray
 | [],cs,h=>by simp[aC9]at h;subst h;exact⟨rfl,λi c hc=>by grind⟩
 | v::r,cs,h=>by
   simp only[aC9]at h;split at h
   .rename_i x y hx hy;simp only[za]at h;subst h;have ih:=aI1 hy;refine⟨by simp[ih.1],λi c hc=>?_⟩;cases i with
    | zero=>simp at hc;subst hc;simpa using aG2 hx G D w
    | succ i=>have:=ih.2 i c (by grind);simp_all
   grind
theorem aDw{t:TypeId}{z:List V}(h:aEv P t=some z)(G:Ghost)(D:Nat->Prop)(w:World):∃v,(∃i,P.info? t=some i∧i.zero=some v)∧(zeroValue t).run P w=.ok v w∧RepC G D w z v.cells:=by
 simp only[aEv,yN]at h;obtain⟨v,⟨i,hi,hz⟩,hv⟩:=h;refine⟨v,⟨i,hi,hz⟩,by simp[zeroValue,typeInfo,hi,hz],?_⟩;have:=aI1 (G:=G) (D:=D) (w:=w) hv;omega
theorem aSq(hg:Good P D n s G a w){t:TypeId}:∀{ps:List (Nat×Operand)} {qs:List (Nat×Nat×Src)} {zero:List V} {cells:Array Value},aIj P n t ps=some qs->RepC G (Dp D s.L G) w zero cells ->
 (∀p∈qs,(s.ev p.2.2).ncells=some p.2.1)->aKb zero.length qs=true ->
 ∃cells',Instr.fill (aIf P t) cells (ps.map λp=>(p.1,a.eval p.2))=some cells'∧RepC G (Dp D s.L G) w (qs.foldl (λcs p=>aB3 cs p.1 (s.ev p.2.2).cells) zero) cells'
 | [],qs,zero,cells,h,hz,_,_=>by simp[aIj]at h;subst h;exact⟨cells,rfl,hz⟩
 | (i,x)::r,qs,zero,cells,h,hz,hp,hf=>by
   simp only[aIj]at h;split at h
   .rename_i off z y rest h1 h2 h3;simp only[za]at h;subst h;have hk:=hp (off,z,y) (by simp);obtain⟨c1,c2,c3⟩:=aFn (aAm hg h2) hk;simp only[aKb,List.all_cons,zc,decide_eq_true_eq]at hf;have c4:(a.eval x).cells.size=z:=by rw[<-c1.1];exact c2
    have hfit:off+(s.ev y).cells.length<=zero.length:=by grind
    have step:=bEk hz c1 hfit;have hl:(aB3 zero off (s.ev y).cells).length=zero.length:=aEf hfit;obtain⟨cells',e1,e2⟩:=aSq hg h3 step (λp hm=>hp p (by grind)) (by simp only[aKb];grind);refine⟨cells',?_,e2⟩;have c5:¬(off+z>cells.size):=by rw[<-hz.1];omega
    simp only[List.map_cons,Instr.fill,h1,c4,ne_eq,not_true_eq_false,decide_false,Bool.false_or,decide_eq_true_eq,c5,if_false];exact e1
   grind
theorem bL9(hd:aA5 n o.dst=true){t:TypeId}{parts:Array (Nat×Operand)}{z:List V}{ps:List (Nat×Nat×Src)}(hz:aEv P t=some z)(hps:aIj P n t parts.toList=some ps)(hpl:aMm P t=true)(hf:aKb z.length ps=true)
 (ho:o.op=.build t parts):aBc P D n o (.build o.dst z ps):=by
 intro s G a w K next Q h hg hn hfree
 simp only[aAf]at h;obtain⟨zv,⟨it,hit,hzv⟩,_,hrep⟩:=aDw hz G (Dp D s.L G) w;obtain⟨cells,e1,e2⟩:=aSq hg hps hrep h.1 hf;have hb:P.built t ((parts.map λ(i,x)=>(i,a.eval x)).toList)=some cells:=by
  have e3:(parts.map λ(x:Nat×Operand)=>match x with|(i,x)=>(i,a.eval x)).toList=parts.toList.map λp=>(p.1,a.eval p.2):=by simp
  unfold Program.built;rw[e3];cases hu:P.underlying t with
  | none=>simp[aMm,hu]at hpl
  | some d =>
    cases d<;>try (simp[aMm,hu]at hpl;done)
    case array m e =>
     simp only[aMm,hu,yt]at hpl;obtain⟨ie,hie⟩:=hpl;simp only[hit,hzv,hie];have:aIf P t=λi=>some (i*ie.size,ie.size):=by funext i;simp[aIf,hu,hie]
     grind
    case struct fields =>
     simp only[aMm,hu,yt]at hpl;obtain⟨pl,hpl⟩:=hpl;simp only[hit,hzv,hpl];have:aIf P t=(pl.toArray[·]?):=by funext i;simp[aIf,hu,hpl]
     grind
 refine aA1 hg hd hn ?_ (.agg _ _ e2.1 e2.2) h.2;simp only[execOp,ho,aD8,run_build w t _ cells hb];rfl
end
end Go.Ab
