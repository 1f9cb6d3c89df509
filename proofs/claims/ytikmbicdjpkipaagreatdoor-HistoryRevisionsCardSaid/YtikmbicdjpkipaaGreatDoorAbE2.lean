import Derived.Test.YtikmbicdjpkipaaGreatDoorAbE1
import Derived.Laws.IdiomCopy
import Derived.Laws.IdiomRangeMap
import Derived.Laws.Append
import Derived.Laws.MakeOwn
import Derived.Laws.IdiomStrings
open Array renaming getD_eq_getD_getElem?->zo,getElem?_eq_some_iff->xp,range->wz,getElem?_append->yS,append_assoc->wE
open Option.some renaming inj->zq,injEq->za
open Nat renaming mul_le_mul_right->zJ,add_zero->xv,add_mul->xj,mul_le_mul_left->wI,zero_add->w8,le_refl->zz,mul_le_mul->w5,zero_le->xK,add_assoc->xA,eq_zero_or_pos->y4,sub_mul->ve
open List renaming length_cons->zg,all_eq_true->zx,getElem?_eq_some_iff->zS,zipIdx_cons->wR,map_cons->zE,range->zU,length->xc,mem_map->zQ,mem_of_mem_drop->yo,mem_of_mem_take->yE,length_map->zb,getElem?_map->yu,length_eq_zero_iff->yP,getElem?_take_of_lt->y6,getElem?_drop->xR,mem_of_getElem?->y7,drop_drop->xW,drop_left->wW
open Option renaming bind_some->zG,isSome_iff_exists->yt,map_some->zL,map_eq_some_iff->zm
open Bool renaming and_eq_true->zc
set_option linter.unusedSimpArgs false
set_option linter.unusedVariables false
namespace Go.Ab
open Go.RowKit
section
variable {P:Program} {D:Nat->Prop} {n:Nat} {hint:Nat->Nat} {s:St} {G:Ghost} {a:Act} {w:World} {o:Oper} {K:St->Prop} {next:Act->World->Prop} {Q:Exit->Act->World->Prop} {m:Option Nat}
theorem aA9{b q:Nat}{c:Array Value}{ty:TypeId}{fr:Nat×Nat}(h:w.heap[b]?=some (.cells c ty fr)):w.cell? ⟨b,q,none⟩=c[q]?:=by simp[World.cell?,h]
theorem aBj{b q:Nat}{c:Array Value}{ty:TypeId}{fr:Nat×Nat}(h:w.heap[b]?=some (.cells c ty fr)):aDk w b q=c.getD q undef:=by simp[aDk,aA9 h,zo]
theorem aA8{x:V}{k:Nat}(h:x.ncells=some k):x.cells.length=k:=by
 unfold V.ncells at h;split at h
 .split at h
  .simpa[V.cells]using h
  grind
 .rename_i hx;split at h
  .rename_i h1;cases x<;>simp[V.one]at h1<;>simpa[V.cells]using h
  grind
theorem aZs(hd:aA5 n o.dst=true){t:TypeId}{z:Nat}{ag c:Bool}{x:Operand}{x':Src}(hx:opd n x=some x')(hz:szOf P t=some z)(ha:aEn P t=some ag)(h1:ag=true∨z=1)(ho:o.op=.load t x):
 aBc P D n o (.load o.dst c z ag x'):=by
 intro s G a w K next Q h hg hn hfree
 have rx:=aAm hg hx;have fin:∀b q (cs:List V),a.eval x=.pointer (some ⟨b,q,none⟩)->cs.length=z->(∀j c,cs[j]?=some c->(w.cell? ⟨b,q+j,none⟩).isSome=true)->(∀j c,cs[j]?=some c->Rep G (Dp D s.L G) w c (aDk w b (q+j))) ->
  K (s.setO o.dst (pack ag cs))->o.upon P a next Q ((execOp a.eval o).run P w):=by
  intro b q cs hv hl hs hr hK;refine aA1 hg hd hn (x:=pack ag cs) ?_ (aTx hl h1 hr) hK;simp only[execOp,ho,hv,aD8,Instr.loadAt,Instr.sureAddr,Sem.run_bind,Sem.run_pure,Result.andThen_ok];rw[aJx hz ha h1 λj hj=>hs j cs[j] (by simp)];rfl
 simp only[aAf]at h;split at h
 .rename_i cs hb;rw[hb]at rx;obtain⟨b,q,ev,r1,r2,r3,r4⟩:=aNa rx;grind
 .rename_i id off hb;rw[hb]at rx;obtain⟨g,r1,ev⟩:=aFw rx;split at h
  .rename_i cs hL;obtain⟨g',k1,c',ty,fr,k2,k3,k4,_,k5⟩:=hg.hp.blk _ _ hL;obtain rfl:g=g':=zq (r1.symm.trans k1);have q0:g.off+off=off:=by omega
   rw[q0]at ev;refine fin _ _ ((cs.drop off).take z) ev (by grind) (λj c hc=>?_) (λj c hc=>?_) h.2.2
   .have hc':cs[off+j]?=some c:=by grind
    rw[aA9 k2];grind
   .have hc':cs[off+j]?=some c:=by grind
    rw[aBj k2];grind
  grind
 .rename_i id i j hb;rw[hb]at rx;obtain⟨g,r1,ev⟩:=aJa rx;split at h
  .rename_i sz' es hL;obtain⟨_,p1,p2,p3⟩:=h;obtain⟨g',k1,e1,e2,e3,e4,e5⟩:=hg.hp.blk _ _ hL;obtain rfl:g=g':=zq (r1.symm.trans k1);obtain⟨c',ty,fr,k2,k3,k4,k5⟩:=e5 (by omega);have hei:es[i]?=some (es.getD i .junk):=by grind
   have hlen:(es.getD i .junk).cells.length=sz':=aA8 (e4 _ (mem_of_getElem? hei));rw[e1]at ev;have get:∀m c,(((es.getD i .junk).cells.drop j).take z)[m]?=some c->(es[i]?.bind λe=>e.cells[j+m]?)=some c∧m<z:=by grind
   refine fin _ _ (((es.getD i .junk).cells.drop j).take z) ev (by grind) (λm c hc=>?_) (λm c hc=>?_) p3
   .obtain⟨q1,q2⟩:=get m c hc;rw[aA9 k2];have:(i+1)*sz'<=g.cap*sz':=zJ _ (by omega);grind
   .obtain⟨q1,q2⟩:=get m c hc;rw[aBj k2];grind
  grind
 grind
def putL(c:Array Value)(q:Nat):List Value->Array Value
 | []=>c
 | v::r=>putL (c.setIfInBounds q v) (q+1) r
theorem aHd:∀(l:List Value) (c:Array Value) (q:Nat),q+l.length<=c.size ->
 (putL c q l).size=c.size∧∀i,(putL c q l).getD i undef=if q<=i∧i<q+l.length then l.getD (i-q) undef else c.getD i undef
 | [],c,q,_=>by simp[putL];omega
 | v::r,c,q,h=>by
   obtain⟨h1,h2⟩:=aHd r (c.setIfInBounds q v) (q+1) (by grind);simp only[putL];refine⟨by grind,λi=>?_⟩;rw[h2];simp only[zg]at h ⊢;by_cases e:i=q
   .subst e;rw[if_neg (by omega),if_pos (by omega)];simp[zo,Array.getElem?_setIfInBounds_self_of_lt (show i<c.size by omega)]
   .by_cases h3:q+1<=i∧i<q+1+r.length
    .grind
    .rw[if_neg h3,if_neg (by omega)];have hne:q≠i:=λh=>e h.symm;simp_all
theorem aOp(w:World)(b q:Nat)(v:Value){c:Array Value}{ty:TypeId}{fr:Nat×Nat}(h:w.heap[b]?=some (.cells c ty fr)):
 (w.setCell ⟨b,q,none⟩ v).heap[b]?=some (.cells (c.setIfInBounds q v) ty fr):=by
 have hlt:b<w.heap.size:=(xp.1 h).1;have hv:w.heap[b]=.cells c ty fr:=(xp.1 h).2;unfold World.setCell;grind
theorem aDs(b:Nat):∀(vs:List Value) (q:Nat) (w:World) {c:Array Value} {ty:TypeId} {fr:Nat×Nat},w.heap[b]?=some (.cells c ty fr) ->
 (w.setCells b q vs).heap[b]?=some (.cells (putL c q vs) ty fr)∧(∀x,x≠b->(w.setCells b q vs).heap[x]?=w.heap[x]?)∧(w.setCells b q vs).heap.size=w.heap.size ∧
  (w.setCells b q vs).os=w.os∧(w.setCells b q vs).tape=w.tape∧(w.setCells b q vs).output=w.output
 | [],q,w,c,ty,fr,h=>⟨h,λ_ _=>rfl,rfl,rfl,rfl,rfl⟩
 | v::r,q,w,c,ty,fr,h=>by obtain⟨h1,h2,h3,h4,h5,h6⟩:=aDs b r (q+1) (w.setCell ⟨b,q,none⟩ v) (aOp w b q v h);refine⟨h1,λx hx=>(h2 x hx).trans (Below.heap_setCell w _ _ _ hx),h3.trans (by simp),h4,h5,h6⟩
theorem aI6{t:TypeId}{z b q:Nat}{v:Value}{c:Array Value}{ty:TypeId}{fr:Nat×Nat}(hz:szOf P t=some z)(hv:v.cells.size=z)(h1:∀u∈v.cells.toList,u.oneCell'=true)
 (h:w.heap[b]?=some (.cells c ty fr)) (hq:q+z<=c.size) (hf:∀i,i<z->¬(fr.1<=q+i∧q+i<fr.2)) :
 (storeVar t ⟨b,q,none⟩ v).run P w=.ok () (w.setCells b q v.cells.toList):=by
 have:=run_storeCells_cells (P:=P) b q v.cells.toList 0 w (λj hj=>by rw[aA9 h];grind) (λj hj=>by have h3:=hf j (by grind);simp only[World.frozen?,h,xv];grind) h1
 simp only[storeVar,Sem.run_bind,aEc hz,Result.andThen_ok,hv,ne_eq,not_true_eq_false,if_false,xv]at this ⊢;omega
theorem Good.turnBlk(hg:Good P D n s G a w){id:Nat}{b b':Blk}{g:GB}{w':World}(hL:s.L id=some b)(hG:G id=some g)(hocc:∀x,Occ g b' x↔Occ g b x)
 (hb:∀x,Occ g b x->x=g.blk) (hother:∀x,x≠g.blk->w'.heap[x]?=w.heap[x]?) (hne:Occ g b g.blk) (hsz:w'.heap.size=w.heap.size) (hos:w'.os=w.os) (htape:w'.tape=w.tape) (hout:w'.output=w.output)
 (hok:∀G' D',(∀x v,Rep G (Dp D s.L G) w x v->Rep G' D' w' x v)->BlkOk G' D' w' g b') :
 Good P D n (s.put id b') G a w'∧Nxt s.L G w (s.put id b').L G w':=by
 have hown:∀x,Own (s.put id b').L G x->Own s.L G x:=by
  rintro x ⟨i,bi,gi,h1,h2,h3⟩;by_cases e:i=id
  .subst e;simp only[St.put,aAe,za]at h1;subst h1;obtain rfl:gi=g:=zq (h2.symm.trans hG);exact⟨i,b,gi,hL,h2,(hocc x).1 h3⟩
  .simp only[St.put,aAc _ _ _ _ e]at h1;exact⟨i,bi,gi,h1,h2,h3⟩
 have hx:Nxt s.L G w (s.put id b').L G w':=by refine⟨G.le_refl,⟨by omega,λx hx hn=>hother x λe=>hn ?_⟩,λx _=>hown x,hos,htape,hout⟩;subst e;exact⟨id,b,g,hL,hG,hne⟩
 refine⟨hg.later hx ?_,hx⟩;refine hg.hp.turn (·=id) hx hg.hp.fin (λi bi hl hne=>?_) (λi bi gi x hl hne hgi ho=>?_) (λ_ _ _ _ _ h=>h) (λi j hi hj=>hi.trans hj.symm) (λi bi hl hi=>?_)
 .simpa only[St.put,aAc _ _ _ _ hne]using hl
 .refine hother x λe=>?_;subst e;simp only[St.put,aAc _ _ _ _ hne]at hl;exact hg.hp.apart i id bi b gi g _ hl hL hgi hG hne ho ‹_›
 .subst hi;simp only[St.put,aAe,za]at hl;subst hl;refine⟨g,hG,hok _ _ λx v hr=>hx.rep hr,λx ho=>?_⟩;have ho':=(hocc x).1 ho;have:=hg.hp.away x ⟨i,b,g,hL,hG,ho'⟩;refine⟨by omega,this.2,λi2 b2 g2 hl2 hn2 hg2 ho2=>?_⟩;simp only[St.put,aAc _ _ _ _ hn2]at hl2;exact hg.hp.apart i2 i b2 b g2 g x hl2 hL hg2 hG hn2 ho2 ho'
theorem aG4{x:V}{k:Nat}(h:x.ncells=some k):∀c,c∈x.cells->c.one=true:=by
 unfold V.ncells at h;split at h
 .split at h
  .rename_i hall;intro c hc;exact zx.1 hall c hc
  grind
 .split at h
  .rename_i hx h1;intro c hc;cases x<;>simp[V.one]at h1<;>simp[V.cells]at hc<;>subst hc<;>simp[V.one,h1]
  grind
theorem bBl{e:V}{cs:List V}{k:Nat}(he:e.ncells=some k)(hl:cs.length=k)(ho:∀c,c∈cs->c.one=true):(e.recell cs).ncells=some k∧(e.recell cs).cells=cs:=by
 unfold V.ncells at he;split at he
 .split at he
  .rename_i hall;simp only[V.recell,V.ncells,V.cells];grind
  grind
 .rename_i hx;split at he
  .rename_i h1;simp only[za]at he;subst he
   match cs,hl with
   | [c],_ =>
     have hc:=ho c (by simp);have er:e.recell [c]=c:=by cases e<;>first|rfl|grind
     rw[er];refine⟨?_,?_⟩
     .unfold V.ncells;split
      .simp[V.one]at hc
      grind
     .cases c<;>first|rfl|simp[V.one]at hc
  grind
theorem bBb{zero:List V}{off:Nat}{cs:List V}{c:V}(h:c∈aB3 zero off cs):c∈zero∨c∈cs:=by
 simp only[aB3,List.mem_append]at h;grind
theorem bMh{t:TypeId}{z:Nat}{x y:Operand}{x' y':Src}(hx:opd n x=some x')(hy:opd n y=some y')(hz:szOf P t=some z)(hdst:o.dst=none)(ho:o.op=.store t x y):aBc P D n o (.store z x' y'):=by
 intro s G a w K next Q h hg hn hfree
 have rx:=aAm hg hx;have ry:=aAm hg hy;have run:∀b q w',a.eval x=.pointer (some ⟨b,q,none⟩)->(storeVar t ⟨b,q,none⟩ (a.eval y)).run P w=.ok () w'->(execOp a.eval o).run P w=.ok .skip w':=by intro b q w' hv hr;simp only[execOp,ho,hv,Instr.storeAt,Instr.sureAddr,Sem.run_bind,Sem.run_pure,Result.andThen_ok,hr]
 simp only[aAf]at h;split at h
 .rename_i id off hb;rw[hb]at rx;obtain⟨g,r1,ev⟩:=aFw rx;split at h
  .rename_i ty0 cs hL;obtain⟨p1,p2,p3⟩:=h;obtain⟨g',k1,c',ty,fr,k2,k3,k4,k5,k6⟩:=hg.hp.blk _ _ hL;obtain rfl:g=g':=zq (r1.symm.trans k1);have q0:g.off+off=off:=by omega
   rw[q0]at ev;obtain⟨c1,c2,c3⟩:=aFn ry p1;have c4:(a.eval y).cells.size=z:=by rw[<-c1.1];exact c2
   have hrun:=aI6 (P:=P) hz c4 c3 k2 (q:=off) (by omega) (λi hi=>by have:=k5 (off+i) (by omega);omega);obtain⟨s1,s2,s3,s4,s5,s6⟩:=aDs g.blk (a.eval y).cells.toList off w k2;have fit:off+(s.ev y').cells.length<=cs.length:=by omega
   have hl1:(a.eval y).cells.toList.length=z:=by omega
   obtain⟨u1,u2⟩:=aHd (a.eval y).cells.toList c' off (by omega);obtain⟨g1,g2⟩:=hg.turnBlk (b':=.box ty0 (aB3 cs off (s.ev y').cells)) hL r1 (λx=>Iff.rfl) (λx h=>h) s2 rfl s3 s4 s5 s6 (λG' D' hm=>by
    refine⟨_,ty,fr,s1,⟨by rw[u1,aEf fit,k3.1],k3.2⟩,k4,by grind,λi x hi=>?_⟩;rw[u2,hl1];rw[aK8 fit,c2]at hi;split at hi
    .rename_i hh;rw[if_pos hh];have:=c1.2 _ _ hi;simp_all
    grind)
   rw[run _ _ _ ev hrun];simp only[Oper.upon,hdst,Act.put];exact hn _ _ _ _ p3 g1 g2 (New.same rfl)
  grind
 .rename_i id i j hb;rw[hb]at rx;obtain⟨g,r1,ev⟩:=aJa rx;split at h
  .rename_i ty0 sz' es hL;obtain⟨p0,p1,p2,p3⟩:=h;obtain⟨g',k1,e1,e2,e3,e4,e5⟩:=hg.hp.blk _ _ hL;obtain rfl:g=g':=zq (r1.symm.trans k1);have hcap:0<g.cap:=by omega
   obtain⟨c',ty,fr,k2,k3,k4,k5⟩:=e5 hcap;have hei:es[i]?=some (es.getD i .junk):=by grind
   have hne:=e4 _ (mem_of_getElem? hei);have hlen:(es.getD i .junk).cells.length=sz':=aA8 hne;rw[e1]at ev;have hmul:(i+1)*sz'<=g.cap*sz':=zJ _ (by omega);rw[xj]at hmul;obtain⟨c1,c2,c3⟩:=aFn ry p0;have c4:(a.eval y).cells.size=z:=by rw[<-c1.1];exact c2
   have hrun:=aI6 (P:=P) hz c4 c3 k2 (q:=g.off+i*sz'+j) (by omega) (λm hm=>by have:=k4 (i*sz'+j+m) (by omega);omega);obtain⟨s1,s2,s3,s4,s5,s6⟩:=aDs g.blk (a.eval y).cells.toList (g.off+i*sz'+j) w k2;have fit:j+(s.ev y').cells.length<=(es.getD i .junk).cells.length:=by omega
   have hl1:(a.eval y).cells.toList.length=z:=by omega
   obtain⟨u1,u2⟩:=aHd (a.eval y).cells.toList c' (g.off+i*sz'+j) (by omega);obtain⟨v1,v2⟩:=bBl (cs:=aB3 (es.getD i .junk).cells j (s.ev y').cells) hne (by rw[aEf fit,hlen]) (λc hc=>(bBb hc).elim (aG4 hne c) (aG4 p0 c));obtain⟨g1,g2⟩:=hg.turnBlk (b':=.vec ty0 sz' (es.set i ((es.getD i .junk).recell (aB3 (es.getD i .junk).cells j (s.ev y').cells)))) hL r1 (λx=>Iff.rfl) (λx h=>h.2) s2 ⟨hcap,rfl⟩ s3 s4 s5 s6 (λG' D' hm=>by
    refine⟨e1,by grind,e3,λe he=>?_,λ_=>⟨_,ty,fr,s1,by grind,by grind,λi' j' x hi=>?_⟩⟩
    .grind
    .rw[u2,hl1];by_cases hii:i'=i
     .subst hii;rw[List.getElem?_set_self (by omega),zG,v2,aK8 fit,c2]at hi;split at hi
      .rename_i hh;rw[if_pos (by omega)];have:=c1.2 _ _ hi;have e:g.off+i'*sz'+j'-(g.off+i'*sz'+j)=j'-j:=by omega
       simp_all
      grind
     .rw[List.getElem?_set_ne (λh=>hii h.symm)]at hi;have hj':j'<sz':=by
       cases he:es[i']? with
       | none=>grind
       | some e=>rw[he,zG]at hi;have:=(zS.1 hi).1;rw[aA8 (e4 e (mem_of_getElem? he))]at this;omega
      rw[if_neg]
      .grind
      .rcases Nat.lt_or_gt_of_ne hii with hlt|hgt
       .have:=zJ sz' (show i'+1<=i by omega);grind
       .have:=zJ sz' (show i+1<=i' by omega);grind)
   rw[run _ _ _ ev hrun];simp only[Oper.upon,hdst,Act.put];exact hn _ _ _ _ p3 g1 g2 (New.same rfl)
  grind
 grind
end
end Go.Ab
namespace Go.Ab
open Go.RowKit
section
variable {P:Program} {D:Nat->Prop} {n:Nat} {hint:Nat->Nat} {s:St} {G:Ghost} {a:Act} {w:World} {o:Oper} {K:St->Prop} {next:Act->World->Prop} {Q:Exit->Act->World->Prop} {m:Option Nat}
theorem aBr(w:World)(ob:Obj):Below w.heap.size w (w.alloc ob):=⟨rfl,rfl,rfl,by simp,λk hk=>heap_alloc_old w ob hk⟩
theorem aA4(w:World)(ob:Obj):(w.alloc ob).heap[w.heap.size]?=some ob:=heap_alloc_new w ob
theorem aVl(w:World)(ob:Obj):(w.alloc ob).heap.size=w.heap.size+1:=by simp
theorem aT5{G:Ghost}{id:Nat}(h:G id=none)(g:GB):G.le (upd G id (some g)):=λi x hx=>by
 exact⟨x.aux,by rw[aAc _ _ _ _ (λe=>by grind)];exact hx⟩
theorem aF0{s s':St}{id d:Nat}(gb:GB)(hn:s'.nx=s.nx)(hid:id=s.nx+d):New (some d) s G s' (upd G id (some gb)):=by
 refine⟨hn,λi hi=>?_⟩;by_cases e:i=id
 .grind
 .rw[aAc _ _ _ _ e]at hi;grind
theorem Good.newBlk(hg:Good P D n s G a w){w':World}(hb:Below w.heap.size w w'){id:Nat}(hid:G id=none)(hU:id<s.nx+n)(b:Blk)(gb:GB)
 (hocc:∀x,Occ gb b x->w.heap.size<=x∧x<w'.heap.size)
 (hok:∀G' D',(∀x v,Rep G (Dp D s.L G) w x v->Rep G' D' w' x v)->BlkOk G' D' w' gb b) :
 Good P D n (s.add id b) (upd G id (some gb)) a w'∧Nxt s.L G w (s.add id b).L (upd G id (some gb)) w':=by
 have hLid:s.L id=none:=by
  cases h:s.L id with
  | none=>rfl
  | some b'=>obtain⟨g,h1,_⟩:=hg.hp.blk id b' h;grind
 have hx:Nxt s.L G w (s.add id b).L (upd G id (some gb)) w':=by
  refine⟨aT5 hid gb,⟨hb.size,λx h _=>hb.block x h⟩,?_,hb.os,hb.tape,hb.output⟩;rintro x hx ⟨i,bi,gi,h1,h2,h3⟩;by_cases e:i=id
  .subst e;simp only[St.add,aAe,za]at h1 h2;grind
  .simp only[St.add,aAc _ _ _ _ e]at h1 h2;exact⟨i,bi,gi,h1,h2,h3⟩
 refine⟨hg.later hx ?_,hx⟩;refine hg.hp.turn (·=id) hx (λi hi=>(aAc _ _ _ _ (show i≠id from λe=>by grind)).trans (hg.hp.fin i hi)) (λi bi hl hne=>?_) (λi bi gi x hl hne hgi ho=>?_) (λi bi gi _ hne hgi=>by rw[aAc _ _ _ _ hne];omega) (λi j hi hj=>hi.trans hj.symm) (λi bi hl hi=>?_)
 .simpa only[St.add,aAc _ _ _ _ hne]using hl
 .simp only[St.add,aAc _ _ _ _ hne]at hl;exact hb.block x (hg.hp.away x ⟨i,bi,gi,hl,hgi,ho⟩).1
 .subst hi;simp only[St.add,aAe,za]at hl;subst hl;refine⟨gb,aAe _ _ _,hok _ _ λx v hr=>hx.rep hr,λx ho=>?_⟩;have h1:=hocc x ho;refine⟨h1.2,λhd=>?_,λi2 b2 g2 hl2 hn2 hg2 ho2=>?_⟩
  .have:=hg.hp.dlt x hd;omega
  .simp only[St.add,aAc _ _ _ _ hn2]at hl2;have:=(hg.hp.away x ⟨i2,b2,g2,hl2,hg2,ho2⟩).1;omega
theorem bI4{d:Nat}(hd:d<n)(hdst:o.dst=some d){e:TypeId}{z:List V}(hz:aEv P e=some z)(ho:o.op=.alloc e):aBc P D n o (.alloc d e z):=by
 intro s G a w K next Q h hg hn hfree
 have hG:=hfree d rfl;obtain⟨zv,_,hrun,hrep⟩:=aDw hz G (Dp D s.L G) w;simp only[aAf]at h;have hK:=h;have run:(execOp a.eval o).run P w=.ok (.value (.pointer (some ⟨w.heap.size,0,none⟩))) (w.alloc (.cells zv.cells e)):=by simp only[execOp,ho,aD8,Instr.alloc,Sem.run_bind,hrun,Result.andThen_ok];rfl
 obtain⟨g1,g2⟩:=hg.newBlk (aBr w (.cells zv.cells e)) hG (by omega) (.box e z) ⟨w.heap.size,0,0,0,0⟩ (λx hx=>(by simp only[Occ]at hx;simp_all)) (λG' D' hm=>⟨_,_,_,aA4 _ _,⟨hrep.1.symm,rfl⟩,rfl,λi _=>(by simp),λi x hx=>hm _ _ (hrep.2 i x hx)⟩)
 rw[run];simp only[Oper.upon,hdst];have g3:=g1.put (d:=some d) (x:=.ptr (s.nx+d) 0) (v:=.pointer (some ⟨w.heap.size,0,none⟩)) (by simpa[aA5]using hd) (.ptr (s.nx+d) 0 _ (aAe _ _ _));exact hn _ _ _ _ hK g3 g2 (aF0 _ rfl rfl)
theorem bRm{d:Nat}(hd:d<n)(hdst:o.dst=some d){e:TypeId}{x:Operand}{x':Src}(hx:opd n x=some x')(ho:o.op=.box e x):aBc P D n o (.box d e x'):=by
 intro s G a w K next Q h hg hn hfree
 have hG:=hfree d rfl;simp only[aAf]at h;obtain⟨h1,h2⟩:=h;obtain⟨k,hk⟩:=yt.1 h1;obtain⟨c1,c2,c3⟩:=aFn (aAm hg hx) hk;have hK:=h2;have run:(execOp a.eval o).run P w=.ok (.value (.pointer (some ⟨w.heap.size,0,none⟩))) (w.alloc (.cells (a.eval x).cells e)):=by simp only[execOp,ho,aD8,Instr.box];rfl
 obtain⟨g1,g2⟩:=hg.newBlk (aBr w (.cells (a.eval x).cells e)) hG (by omega) (.box e (s.ev x').cells) ⟨w.heap.size,0,0,0,0⟩ (λx hx=>(by simp only[Occ]at hx;simp_all)) (λG' D' hm=>⟨_,_,_,aA4 _ _,⟨c1.1.symm,rfl⟩,rfl,λi _=>(by simp),λi x hx=>hm _ _ (c1.2 i x hx)⟩)
 rw[run];simp only[Oper.upon,hdst];have g3:=g1.put (d:=some d) (x:=.ptr (s.nx+d) 0) (v:=.pointer (some ⟨w.heap.size,0,none⟩)) (by simpa[aA5]using hd) (.ptr (s.nx+d) 0 _ (aAe _ _ _));exact hn _ _ _ _ hK g3 g2 (aF0 _ rfl rfl)
theorem bP7(hg:Good P D n s G a w)(z:Nat):∀(xs:List Operand) (qs:List Src) (k:Nat) (cells:Array Value),opds n xs=some qs->(∀p∈qs,(s.ev p).ncells=some z)->(k+xs.length)*z<=cells.size ->
 ∃cells',Instr.fill (λi=>some (i*z,z)) cells ((xs.zipIdx k).map λp=>(p.2,a.eval p.1))=some cells'∧cells'.size=cells.size∧(∀m,m<k*z->cells'.getD m undef=cells.getD m undef)∧qs.length=xs.length ∧
   ∀i j c,(((qs.map s.ev)[i]?).bind λe=>e.cells[j]?)=some c->Rep G (Dp D s.L G) w c (cells'.getD ((k+i)*z+j) undef)
 | [],qs,k,cells,h,_,_=>by simp[opds]at h;subst h;exact⟨cells,rfl,rfl,λ_ _=>rfl,rfl,λi j c hc=>by grind⟩
 | x::r,qs,k,cells,h,hp,hf=>by
   simp only[opds]at h;split at h
   .rename_i y rest h1 h2;simp only[za]at h;subst h;obtain⟨c1,c2,c3⟩:=aFn (aAm hg h1) (hp y (by simp));have c4:(a.eval x).cells.size=z:=by rw[<-c1.1];exact c2
    have hf':(k+1+r.length)*z<=cells.size:=by simp only[zg]at hf;grind
    have hkz:k*z+z<=cells.size:=by grind
    obtain⟨p1,p2⟩:=aKd (k*z) (a.eval x).cells.toList 0 cells (by grind);rw[<-Array.toList_zipIdx,Array.foldl_toList]at p1 p2;obtain⟨cells',e1,e2,e3,e4,e5⟩:=bP7 hg z r rest (k+1) ((a.eval x).cells.zipIdx.foldl (λcs (x:Value×Nat)=>cs.setIfInBounds (k*z+x.2) x.1) cells) h2 (λp hm=>hp p (by grind)) (by omega);have c5:¬(k*z+z>cells.size):=by omega
    refine⟨cells',?_,by omega,λm hm=>?_,by grind,λi j c hc=>?_⟩
    .simp only[wR,zE,Instr.fill,c4,ne_eq,not_true_eq_false,decide_false,Bool.false_or,decide_eq_true_eq,c5,if_false];exact e1
    .grind
    .cases i with
     | zero =>
       simp only[zE,List.getElem?_cons_zero,zG]at hc;have hj:j<z:=by grind
       rw[xv,e3 _ (by grind),p2,if_pos (by grind)];have:=c1.2 _ _ hc;simp_all
     | succ i=>have:=e5 i j c (by grind);grind
   grind
theorem bGs:∀(l:List (Nat×Operand)) (k:Nat),l.map (·.1)=(zU l.length).map (k+·)->l=((l.map (·.2)).zipIdx k).map λp=>(p.2,p.1)
 | [],_,_=>rfl
 | (i,x)::r,k,h=>by simp only[zg,List.range_succ_eq_map,zE,List.map_map,List.cons.injEq]at h;obtain⟨h1,h2⟩:=h;simp only[xv]at h1;subst h1;simp only[zE,wR];rw[<-bGs r (i+1) (by rw[h2];apply List.map_congr_left;grind)]
theorem bGv(hg:Good P D n s G a w){t e:TypeId}{len z:Nat}{parts:Array (Nat×Operand)}{qs:List Src}(hu:P.underlying t=some (.slice e))(hz:szOf P e=some z)(hqs:opds n (parts.toList.map (·.2))=some qs)
 (hi:parts.toList.map (·.1)=zU len) (hs:len*z<=2^24) (h0:0<z) (hzero:∃zs,aEv P e=some zs∧zs.length=z) (hp:∀p∈qs,(s.ev p).ncells=some z) (ho:o.op=.buildSlice t len parts) :
 ∃cells,(execOp a.eval o).run P w=.ok (.value (.slice (some ⟨w.heap.size,0,none⟩) len len)) (w.alloc (.cells cells e))∧cells.size=len*z∧qs.length=len ∧
   ∀i j c,(((qs.map s.ev)[i]?).bind λe=>e.cells[j]?)=some c->Rep G (Dp D s.L G) w c (cells.getD (i*z+j) undef):=by
 obtain⟨zs,hzs,hzl⟩:=hzero;obtain⟨zv,_,hzrun,hzrep⟩:=aDw hzs G (Dp D s.L G) w;have hzz:zv.cells.size=z:=by rw[<-hzrep.1,hzl]
 have hlen:parts.toList.length=len:=by have:=congrArg xc hi;grind
 have hparts:(parts.map λ(x:Nat×Operand)=>match x with|(i,x)=>(i,a.eval x)).toList=((parts.toList.map (·.2)).zipIdx 0).map λp=>(p.2,a.eval p.1):=by
  rw[Array.toList_map];have:=bGs parts.toList 0 (by simp_all)
  conv=>lhs;rw[this]
  simp
 have hsz:(P.info? e).map (·.size)=some z:=hz;generalize hc0:(if len*z=0 then(#[]:Array Value)else(wz (len*z)).map (zv.cells[·%zv.cells.size]!))=cells0;have hs0:cells0.size=len*z:=by grind
 obtain⟨cells,e1,e2,e3,e4,e5⟩:=bP7 hg z (parts.toList.map (·.2)) qs 0 cells0 hqs hp (by grind);refine⟨cells,?_,by omega,by grind,λi j c hc=>by simp_all⟩;simp only[execOp,ho,aD8,Instr.buildSlice,Sem.run_bind,run_underlying hu,Result.andThen_ok,aEc hz];rw[if_neg (by omega)];by_cases hl0:len*z=0
 .have hc1:cells0=#[]:=by grind
  rw[hc1]at e1;simp only[hl0,if_true,Sem.run_bind,Sem.run_pure,Result.andThen_ok];have e6:(Array.map (λx=>(#[]:Array Value)[x%(#[]:Array Value).size]!) (wz 0))=#[]:=by simp
  rw[e6,hparts,e1];rfl
 .have hc1:cells0=(wz (len*z)).map (zv.cells[·%zv.cells.size]!):=by grind
  rw[hc1]at e1;simp only[hl0,if_false,Sem.run_bind,hzrun,Sem.run_pure,Result.andThen_ok];rw[hparts,e1];rfl
end
end Go.Ab
namespace Go.Ab
open Go.RowKit
section
variable {P:Program} {D:Nat->Prop} {n:Nat} {hint:Nat->Nat} {s:St} {G:Ghost} {a:Act} {w:World} {o:Oper} {K:St->Prop} {next:Act->World->Prop} {Q:Exit->Act->World->Prop} {m:Option Nat}
theorem Good.grow(hg:Good P D n s G a w){w':World}(hb:Below w.heap.size w w'):Good P D n s G a w'∧Nxt s.L G w s.L G w':=
 ⟨⟨hg.size,hg.defers,λi=>(Nxt.grow hb).rep (hg.env i),hg.hp.grow hb⟩,Nxt.grow hb⟩
theorem bAs(hg:Good P D n s G a w)(hd:aA5 n o.dst=true)(hn:∀s' G' a' w',K s'->Good P D n s' G' a' w'->Nxt s.L G w s'.L G' w'->New m s G s' G'->next a' w')
 {x:V} {v:Value} {w':World} (hb:Below w.heap.size w w') (hr:(execOp a.eval o).run P w=.ok (.value v) w') (hv:Rep G (Dp D s.L G) w' x v) (hK:K (s.setO o.dst x)) :
 o.upon P a next Q ((execOp a.eval o).run P w):=by
 obtain⟨g1,g2⟩:=hg.grow hb;rw[hr];exact hn _ _ _ _ hK (g1.put hd hv) (by rw[aDo];exact g2) (New.same (aCl _ _ _))
theorem bWa(hd:aA5 n o.dst=true){t e:TypeId}{len z:Nat}{parts:Array (Nat×Operand)}{qs:List Src}(hu:P.underlying t=some (.slice e))(hz:szOf P e=some z)(hqs:opds n (parts.toList.map (·.2))=some qs)
 (hi:parts.toList.map (·.1)=zU len) (hs:len*z<=2^24) (h0:0<z) (hzero:∃zs,aEv P e=some zs∧zs.length=z) (ho:o.op=.buildSlice t len parts):aBc P D n o (.mkl o.dst z qs):=by
 intro s G a w K next Q h hg hn hfree
 simp only[aAf]at h;obtain⟨cells,hrun,hc,hl,hr⟩:=bGv hg hu hz hqs hi hs h0 hzero h.1 ho;have hb:=aBr w (.cells cells e);have hlen:(qs.map s.ev).length=len:=by grind
 refine bAs hg hd hn hb hrun ?_ h.2;have hx:=Nxt.grow (L:=s.L) (G:=G) hb;have key:Rep G (Dp D s.L G) (w.alloc (.cells cells e)) (.lst z (qs.map s.ev)) (.slice (some ⟨w.heap.size,0,none⟩) (qs.map s.ev).length len):=by
  have hnd:¬Dp D s.L G w.heap.size:=λhd=>by
   rcases hd with hd|hd
   .have:=hg.hp.dlt _ hd;omega
   .have:=(hg.hp.away _ hd).1;omega
  refine .lst _ _ _ _ w.heap.size 0 (by omega) ?_ (λ_=>⟨rfl,by simp,hnd⟩) (λe he=>?_) (λi j c hc'=>?_) (λi j c hc'=>?_)
  .have:len*1<=len*z:=wI _ h0;omega
  .grind
  .rw[aA9 (aA4 w _)];have hi':i<len:=by
    grind
   have hj:j<z:=by
    cases he:(qs.map s.ev)[i]? with
    | none=>grind
    | some e'=>rw[he,zG]at hc';obtain⟨p,hp,rfl⟩:=zQ.1 (mem_of_getElem? he);rw[<-aA8 (h.1 p hp)];grind
   have:(i+1)*z<=len*z:=zJ _ (by omega);grind
  .rw[aBj (aA4 w _),w8];exact hx.rep (hr i j c hc')
 grind
theorem bQq{d:Nat}(hd:d<n)(hdst:o.dst=some d){t e:TypeId}{len z:Nat}{parts:Array (Nat×Operand)}{qs:List Src}(hu:P.underlying t=some (.slice e))(hz:szOf P e=some z)(hqs:opds n (parts.toList.map (·.2))=some qs)
 (hi:parts.toList.map (·.1)=zU len) (hs:len*z<=2^24) (h0:0<z) (hzero:∃zs,aEv P e=some zs∧zs.length=z) (ho:o.op=.buildSlice t len parts):aBc P D n o (.mkv d e z qs):=by
 intro s G a w K next Q h hg hn hfree
 have hG:=hfree d rfl;simp only[aAf]at h;obtain⟨h1,h2⟩:=h;obtain⟨cells,hrun,hc,hl,hr⟩:=bGv hg hu hz hqs hi hs h0 hzero h1 ho;have hb:=aBr w (.cells cells e);have hlen:(qs.map s.ev).length=len:=by grind
 have hle:len*1<=len*z:=wI _ h0;have hK:=h2;obtain⟨g1,g2⟩:=hg.newBlk hb hG (by omega) (.vec e z (qs.map s.ev)) ⟨w.heap.size,0,len,z,0⟩ (λx hx=>by simp only[Occ]at hx;simp_all) (λG' D' hm=>by
  refine⟨rfl,by grind,by grind,λe he=>?_,λ_=>⟨_,_,_,aA4 _ _,⟨by grind,rfl⟩,⟨λi _=>(by simp),λ_=>(by simp)⟩,λi j x hx=>?_⟩⟩
  .grind
  grind)
 rw[hrun];simp only[Oper.upon,hdst];have g3:=g1.put (d:=some d) (x:=.own (s.nx+d) z 0 qs.length) (v:=.slice (some ⟨w.heap.size,0,none⟩) len len) (by simpa[aA5]using hd) (by rw[hl];exact .own _ _ _ _ ⟨w.heap.size,0,len,z,0⟩ _ _ (aAe _ _ _) rfl (zz _) rfl (by grind) (λ_=>by simp))
 exact hn _ _ _ _ hK g3 g2 (aF0 _ rfl rfl)
theorem bTi{d:Nat}(hd:d<n)(hdst:o.dst=some d){t e:TypeId}{i:TypeInfo}{len cap:Operand}{c:Src}(hu:P.underlying t=some (.slice e))(hi:P.info? e=some i)(hz:i.zero.isSome=true)(hb:i.bytes<=65536)
 (hl:opd n len=some (.k (.int .i64 0))) (hc:opd n cap=some c) (ho:o.op=.makeSlice t len cap):aBc P D n o (.mk0 d e i.size c):=by
 intro s G a w K next Q h hg hn hfree
 have hG:=hfree d rfl;obtain⟨zv,hzv⟩:=yt.1 hz;simp only[aAf]at h;have rc:=aAm hg hc;have rl:=aAm hg hl;split at h
 .rename_i m hm;obtain⟨h1,h2,hK⟩:=h;rw[hm]at rc;have ri:∀{k:IntKind} {x:Int} {v:Value},Rep G (Dp D s.L G) w (.int k x) v->v=.int k x:=λh=>by cases h;rfl
  have e1:a.eval cap=.int .i64 m:=ri rc;have e2:a.eval len=.int .i64 0:=by simp only[St.ev]at rl;grind
  obtain⟨N,rfl⟩:∃N:Nat,m=N:=⟨m.toNat,by omega⟩;have hN:N<=1073741824:=by omega
  have hbytes:(i.bytes:Int)*(N:Int)<=281474976710656:=by have:i.bytes*N<=65536*1073741824:=w5 hb hN;omega
  have run:(execOp a.eval o).run P w=.ok (.value (.slice (some ⟨w.heap.size,0,none⟩) 0 N)) (w.alloc (.cells (madeCells zv.cells (N*i.size)) e)):=by have hr:=run_make (P:=P) w t e i zv hu hi hzv .i64 .i64 0 N (Int.le_refl _) (by omega) hbytes (by omega);simp only[Int.toNat_zero,Int.toNat_natCast]at hr;simp only[execOp,ho,aD8,e1,e2,hr,Result.andThen]
  obtain⟨g1,g2⟩:=hg.newBlk (aBr w (.cells (madeCells zv.cells (N*i.size)) e)) hG (by omega) (.vec e i.size []) ⟨w.heap.size,0,N,i.size,0⟩ (λx hx=>by simp only[Occ]at hx;simp_all) (λG' D' hm=>by refine⟨rfl,xK _,by grind,λe he=>by grind,λ_=>⟨_,_,_,aA4 _ _,⟨by show 0+N*i.size<=_;rw[size_madeCells];omega,rfl⟩,⟨λi _=>(by simp),λ_=>(by simp)⟩,λi j x hx=>by grind⟩⟩)
  rw[run];simp only[Oper.upon,hdst];have g3:=g1.put (d:=some d) (x:=.own (s.nx+d) i.size 0 0) (v:=.slice (some ⟨w.heap.size,0,none⟩) 0 N) (by simpa[aA5]using hd)
   (.own _ _ _ _ ⟨w.heap.size,0,N,i.size,0⟩ _ _ (aAe _ _ _) rfl (xK _) rfl (by grind) (λ_=>by simp))
  exact hn _ _ _ _ hK g3 g2 (aF0 _ rfl rfl)
 grind
theorem bWb{d:Nat}(hd:d<n)(hdst:o.dst=some d){t e:TypeId}{i:TypeInfo}{len:Operand}{m:Int}(hu:P.underlying t=some (.slice e))(hi:P.info? e=some i)(h0:0<m)(h1:m<=65536)(hz:i.zero=some (.int .u8 0))(hs:i.size=1)(hb:i.bytes<=8)
 (hl:opd n len=some (.k (.int .i64 m))) (ho:o.op=.makeSlice t len (.const (.int .i64 m))):aBc P D n o (.mkz d e m.toNat):=λ_ _ _ _ _ _ _ h=>False.elim h
theorem aEt(hg:Good P D n s G a w){y:Operand}{y':Src}(hy:opd n y=some y'){z:Nat}{K':List V->Prop}(h:aAt z s.L (s.ev y') K'):
 ∃ys news,K' ys∧(Builtin.lenOf (a.eval y)).run P w=.ok ys.length w∧(∀w':World,w'.heap=w.heap->(Builtin.firstCells z ys.length (a.eval y)).run P w'=.ok news w')∧news.size=ys.length*z∧(∀u∈news.toList,u.oneCell'=true) ∧
   (∀e,e∈ys->e.ncells=some z)∧(∀i j c,(ys[i]?.bind λe=>e.cells[j]?)=some c->Rep G (Dp D s.L G) w c (news.getD (i*z+j) undef)):=by
 have ry:=aAm hg hy;have rows:∀(ys:List V) (b q len cap:Nat),a.eval y=.slice (some ⟨b,q,none⟩) len cap->ys.length=len->(∀e,e∈ys->e.ncells=some z) ->
  (∀i j c,(ys[i]?.bind λe=>e.cells[j]?)=some c->(w.cell? ⟨b,q+i*z+j,none⟩).isSome=true)->(∀i j c,(ys[i]?.bind λe=>e.cells[j]?)=some c->Rep G (Dp D s.L G) w c (aDk w b (q+i*z+j)))->K' ys ->
  ∃ys news,K' ys∧(Builtin.lenOf (a.eval y)).run P w=.ok ys.length w∧(∀w':World,w'.heap=w.heap->(Builtin.firstCells z ys.length (a.eval y)).run P w'=.ok news w')∧news.size=ys.length*z∧(∀u∈news.toList,u.oneCell'=true) ∧
  (∀e,e∈ys->e.ncells=some z)∧(∀i j c,(ys[i]?.bind λe=>e.cells[j]?)=some c->Rep G (Dp D s.L G) w c (news.getD (i*z+j) undef)):=by
  intro ys b q len cap hv hl hz hs hr hK;have at_:∀m,m<ys.length*z->∃i j c,m=i*z+j∧i<ys.length∧j<z∧(ys[i]?.bind λe=>e.cells[j]?)=some c:=by
   intro m hm;have hz0:0<z:=by grind
   have hi:m / z<ys.length:=Nat.div_lt_of_lt_mul (by grind);have hj:m%z<z:=Nat.mod_lt _ hz0;have he:ys[m / z]?=some ys[m / z]:=by simp
   have hlen:=aA8 (hz _ (mem_of_getElem? he));refine⟨m / z,m%z,(ys[m / z].cells)[m%z]'(by omega),by rw[Nat.mul_comm];exact(Nat.div_add_mod m z).symm,hi,hj,?_⟩;grind
  have run:∀w':World,w'.heap=w.heap->_:=λw' hw=>run_loadCells (P:=P) w' ⟨b,q,none⟩ (ys.length*z) (λm=>aDk w b (q+m)) (λm hm=>by obtain⟨i,j,c,e,_,_,hc⟩:=at_ m hm;rw[aFe,show w'.cell? ⟨b,q+m,none⟩=w.cell? ⟨b,q+m,none⟩by simp[World.cell?,hw]];have:=hs i j c hc;rw[xA,<-e]at this;exact aM1 this)
  refine⟨ys,_,hK,by simp[hv,Builtin.lenOf,hl],λw' hw=>by simp only[hv,Builtin.firstCells];exact run w' hw,by simp,λu hu=>?_,hz,λi j c hc=>?_⟩
  .simp only[zQ,List.mem_range]at hu;obtain⟨m,hm,rfl⟩:=hu;obtain⟨i,j,c,e,hi,hj,hc⟩:=at_ m hm;have h1:=hr i j c hc;rw[xA,<-e]at h1;have he:ys[i]?=some ys[i]:=by simp
   rw[he,zG]at hc;exact(aQ5 h1 (aG4 (hz _ (mem_of_getElem? he)) c (mem_of_getElem? hc))).1
  .have hi:i<ys.length:=by
    grind
   have hj:j<z:=by
    have he:ys[i]?=some ys[i]:=by simp
    rw[he,zG]at hc;rw[<-aA8 (hz _ (mem_of_getElem? he))];grind
   have hm:i*z+j<ys.length*z:=by have:(i+1)*z<=ys.length*z:=zJ _ (by omega);grind
   have:=hr i j c hc;rw[xA]at this;simp_all
 have none_:∀(b:Option Addr) (cap:Nat),a.eval y=.slice b 0 cap->K' [] ->
  ∃ys news,K' ys∧(Builtin.lenOf (a.eval y)).run P w=.ok ys.length w∧(∀w':World,w'.heap=w.heap->(Builtin.firstCells z ys.length (a.eval y)).run P w'=.ok news w')∧news.size=ys.length*z∧(∀u∈news.toList,u.oneCell'=true) ∧
  (∀e,e∈ys->e.ncells=some z)∧(∀i j c,(ys[i]?.bind λe=>e.cells[j]?)=some c->Rep G (Dp D s.L G) w c (news.getD (i*z+j) undef)):=by
  intro b cap hv hK;refine⟨[],#[],hK,by simp[hv,Builtin.lenOf],λw' _=>?_,by simp,by simp,by simp,by simp⟩;cases b<;>simp[hv,Builtin.firstCells,loadCells,loadCellsFrom]
 unfold aAt at h;split at h
 .rename_i hb;rw[hb]at ry;exact none_ _ _ (aDu ry) h
 .rename_i z' es hb;rw[hb]at ry;obtain⟨rfl,hK⟩:=h;obtain⟨b,cap,bb,q,ev,r1,r2,r3,r4,r5,r6⟩:=aEq ry;rcases y4 es.length with h0|h0
  .grind
  grind
 .rename_i id z' off len hb;rw[hb]at ry;obtain⟨g,b,cap,ev,r1,r2,r3,r4,r5,r6⟩:=aDy ry;split at h
  .rename_i sz es hL;obtain⟨rfl,h1,hK⟩:=h;have hlen:((es.drop off).take len).length=len:=by grind
   rcases y4 len with h0|h0
   .grind
   .obtain rfl:=r6 (by omega);obtain⟨g',k1,e1,e2,e3,e4,e5⟩:=hg.hp.blk _ _ hL;obtain rfl:g=g':=zq (r1.symm.trans k1);obtain rfl:z'=sz:=r2.symm.trans e1;obtain⟨c',ty,fr,k2,k3,k4,k5⟩:=e5 (by omega);have get:∀(i j:Nat) (c:V),((((es.drop off).take len)[i]?).bind λe=>e.cells[j]?)=some c->((es[off+i]?).bind λe=>e.cells[j]?)=some c∧i<len:=by
     grind
    refine rows _ g.blk (g.off+off*z') len cap ev hlen (λe he=>e4 e (yo (yE he))) (λi j c hc=>?_) (λi j c hc=>?_) hK
    .obtain⟨q1,q2⟩:=get i j c hc;rw[aA9 k2];have hj:j<z':=by
      cases he:es[off+i]? with
      | none=>grind
      | some e'=>rw[he,zG]at q1;rw[<-aA8 (e4 e' (mem_of_getElem? he))];grind
     have:(off+i+1)*z'<=g.cap*z':=zJ _ (by omega);grind
    .obtain⟨q1,q2⟩:=get i j c hc;rw[aBj k2];have:=k5 _ _ _ q1;grind
  grind
 .rename_i t hb;rw[hb]at ry;obtain⟨rfl,hK⟩:=h;obtain⟨ev,hlen⟩:=aEk ry;have hz':(⟨t.toArray⟩:ByteArray).size=t.length:=by rfl
  have hx:((⟨t.toArray⟩:ByteArray).extract 0 t.length)=⟨t.toArray⟩:=by rw[aMf];simp
  refine⟨_,(t.toArray.map λb=>Value.int .u8 b.toNat),hK,by simp[ev,Builtin.lenOf,hz'],λw' _=>?_,by simp,λu hu=>?_,λe he=>?_,λi j c hc=>?_⟩
  .simp only[ev,Builtin.firstCells,zb,hx];rfl
  .simp only[List.map_toArray,zQ]at hu;obtain⟨b,_,rfl⟩:=hu;rfl
  .obtain⟨b,_,rfl⟩:=zQ.1 he;rfl
  .cases hb':t[i]? with
   | none=>grind
   | some b =>
     simp only[yu,hb',zL,zG,V.cells]at hc
     match j,hc with
     | 0,hc =>
       simp at hc;subst hc;have hi:i<t.length:=(zS.1 hb').1;have hbb:=(zS.1 hb').2;have:(t.toArray.map λb=>Value.int .u8 b.toNat).getD (i*1+0) undef=Value.int .u8 b.toNat:=by simp_all
       rw[this];exact .int _ _
 grind
theorem bVa{d:Nat}(hd:d<n)(hdst:o.dst=some d){src dst e:TypeId}{x:Operand}{x':Src}(hs:P.underlying src=some .string)(ht:P.underlying dst=some (.slice e))(he:P.underlying e=some (.int .u8))
 (hx:opd n x=some x') (ho:o.op=.convert src dst x):aBc P D n o (.s2b d e x'):=by
 intro s G a w K next Q h hg hn hfree
 have hG:=hfree d rfl;simp only[aAf]at h;have rx:=aAm hg hx;split at h
 .rename_i t hev;rw[hev]at rx;obtain⟨ev,hlen⟩:=aEk rx;have hsz:(⟨t.toArray⟩:ByteArray).size=t.length:=by rfl
  have hge:=grownCap_ge w t.length 0 e;have hle:=grownCap_le_maxLen w t.length 0 e (by unfold maxLen;omega);obtain⟨cap,hcap⟩:∃cap,cap=grownCap w t.length 0 e:=⟨_,rfl⟩;rw[<-hcap]at hge hle;have hc2:cap<2^63:=by unfold maxLen at hle;omega
  obtain⟨C,hC⟩:∃C,C=bytesRow ⟨t.toArray⟩ cap:=⟨_,rfl⟩;have hCs:C.size=cap:=by rw[hC];simp only[bytesRow,Array.size_append,Array.size_map,Array.size_replicate,hsz];grind
  have hCg:∀(i:Nat) (b:UInt8),t[i]?=some b->C.getD i undef=.int .u8 b.toNat:=by intro i b hb;have hi:i<t.length:=(zS.1 hb).1;have hbb:=(zS.1 hb).2;rw[hC];simp[bytesRow,zo,yS,hi,hbb]
  have run:(execOp a.eval o).run P w=.ok (.value (.slice (some ⟨w.heap.size,0,none⟩) t.length cap)) (w.drew.alloc (.cells C e (C.size,C.size+1))):=by have hr:=run_bytes_of_string (P:=P) w src dst e ⟨t.toArray⟩ hs ht he;rw[hsz,<-hcap,<-hC]at hr;simp only[execOp,ho,aD8,ev,hr,Result.andThen]
  have hbel:Below w.heap.size w (w.drew.alloc (.cells C e (C.size,C.size+1))):=⟨rfl,rfl,rfl,by simp,λk hk=>heap_alloc_old w.drew _ hk⟩;have hself:(w.drew.alloc (.cells C e (C.size,C.size+1))).heap[w.heap.size]?=some (.cells C e (C.size,C.size+1)):=aA4 w.drew _;have hsize:(w.drew.alloc (.cells C e (C.size,C.size+1))).heap.size=w.heap.size+1:=aVl w.drew _;obtain⟨g1,g2⟩:=hg.newBlk hbel hG (by omega) (.vec e 1 (aAs t)) ⟨w.heap.size,0,cap,1,0⟩ (λx hx=>by simp only[Occ]at hx;omega) (λG' D' hm=>by
   refine⟨rfl,by simp only[aAs,zb];omega,hc2,λe' he'=>?_,λ_=>⟨C,e,_,hself,⟨by grind,rfl⟩,⟨λi hi=>?_,λh=>absurd rfl h⟩,λi j x hx=>?_⟩⟩
   .simp only[aAs,zQ]at he';obtain⟨b,_,rfl⟩:=he';rfl
   .grind
   .cases hb:t[i]? with
    | none=>simp[aAs,hb]at hx
    | some b =>
      simp only[aAs,yu,hb,zL,zG,V.cells]at hx
      match j,hx with
      | 0,hx=>simp at hx;subst hx;have:=hCg i b hb;show Rep _ _ _ _ (C.getD (0+i*1+0) undef);rw[show 0+i*1+0=i by omega,this];exact .int _ _)
  rw[run];simp only[Oper.upon,hdst];have g3:=g1.put (d:=some d) (x:=.own (s.nx+d) 1 0 t.length) (v:=.slice (some ⟨w.heap.size,0,none⟩) t.length cap) (by simpa[aA5]using hd)
   (.own _ _ _ _ ⟨w.heap.size,0,cap,1,0⟩ _ _ (aAe _ _ _) rfl hge rfl hc2 (λ_=>by simp))
  exact hn _ _ _ _ h g3 g2 (aF0 _ rfl rfl)
 grind
theorem bV8(hd:aA5 n o.dst=true){src dst e:TypeId}{x:Operand}{x':Src}(hs:P.underlying src=some (.slice e))(ht:P.underlying dst=some .string)(he:P.underlying e=some (.int .u8))
 (hx:opd n x=some x') (ho:o.op=.convert src dst x):aBc P D n o (.b2s o.dst x'):=by
 intro s G a w K next Q h hg hn hfree
 simp only[aAf]at h;obtain⟨hno,h⟩:=h;have rx:=aAm hg hx;obtain⟨ys,news,⟨bs,rfl,hK⟩,h1,h2,h3,h4,h5,h6⟩:=aEt hg hx h;have hsl:∃b len cap,a.eval x=.slice b len cap∧len<2^63∧(b=none->len=0):=by
  unfold aAt at h;split at h
  .rename_i hb;rw[hb]at rx;exact⟨_,_,_,aDu rx,by omega,λ_=>rfl⟩
  .rename_i hb;rw[hb]at rx;obtain⟨b,cap,bb,q,ev,r1,r2,r3,_⟩:=aEq rx;grind
  .rename_i hb;rw[hb]at rx;obtain⟨g,b,cap,ev,r1,r2,r3,r4,r5,r6⟩:=aDy rx;grind
  .rename_i hb;rw[hb]at hno;exact hno.elim
  grind
 obtain⟨b,len,cap,ev,hl63,hbn⟩:=hsl;have hbl:(aAs bs).length=bs.length:=by simp[aAs]
 have hlen:len=bs.length:=by rw[ev,hbl]at h1;simpa[Builtin.lenOf]using h1
 have run:(execOp a.eval o).run P w=.ok (.value (.string ⟨bs.toArray⟩)) w:=by
  have hcv:(convert src dst (a.eval x)).run P w=.ok (.string ⟨bs.toArray⟩) w:=by
   rw[ev,run_convert_bytes_string w src dst e b len cap hs he ht];cases b with
   | none=>have h0:=hbn rfl;have:bs=[]:=yP.1 (by omega);subst this;rfl
   | some ad =>
     have h2':=h2 w rfl;rw[ev,hbl]at h2';simp only[Builtin.firstCells,Nat.mul_one]at h2';have hn:news=((bs.map λb=>(b.toNat:Int)).map (Value.int .u8)).toArray:=by
      apply Array.ext
      .grind
      .intro i hi1 hi2;have hib:i<bs.length:=by omega
       have:=h6 i 0 (.int .u8 bs[i].toNat) (by simp[aAs,hib,V.cells]);have e1:=aCe this;simp_all
     rw[hlen,run_bytesToString w ad bs.length cap (bs.map λb=>(b.toNat:Int)) (by grind),foldl_push_byteCells];simp
  simp only[execOp,ho,aD8,hcv,Result.andThen]
 exact aA1 hg hd hn (x:=.str bs) (v:=.string ⟨bs.toArray⟩) run (.str _ (by omega)) hK
end
end Go.Ab
namespace Go.Ab
open Go.RowKit
section
variable {P:Program} {D:Nat->Prop} {n:Nat} {hint:Nat->Nat} {s:St} {G:Ghost} {a:Act} {w:World} {o:Oper} {K:St->Prop} {next:Act->World->Prop} {Q:Exit->Act->World->Prop} {m:Option Nat}
theorem aDa{c:Call}{x y:Operand}(hc:c.callee=.builtin .append)(ha:c.args.toList=[x,y])(ho:o.op=.call c):
 (execOp a.eval o).run P w=((Builtin.append_ c.argTypes o.type #[a.eval x,a.eval y]).run P w).andThen λx w'=>.ok (.value x) w':=by
 have ha':c.args=#[x,y]:=by grind
 simp only[execOp,ho,resolve,hc,ha'];simp[invoke,builtin]
structure AppT(P:Program)(c:Call)(z:Nat)where
 t:TypeId
 u:TypeId
 e:TypeId
 i:TypeInfo
 zv:Value
 ht:c.argTypes=#[t,u]
 hu:P.underlying t=some (.slice e)
 hi:P.info? e=some i
 hz:i.size=z
 hzero:i.zero=some zv
 hzs:zv.cells.size=z
 hpos:0<z
 hby:i.bytes<=4096
 hnu:P.underlying u=some .string∨∃d,P.underlying u=some (.slice d)
theorem aFy{c:Call}{z:Nat}(T:AppT P c z)(ty:TypeId){base:Option Addr}{len cap:Nat}{y:Value}{m:Nat}{news:Array Value}{w':World}
 (hl:(Builtin.lenOf y).run P w=.ok m w) (hf:(Builtin.firstCells z m y).run P w=.ok news w) (hroom:len+m<=cap)
 (hst:(match base with|some b=>(storeCells (b.add (len*z)) news.toList).run P w|none=>.ok () w)=.ok () w') :
 (Builtin.append_ c.argTypes ty #[.slice base len cap,y]).run P w=.ok (.slice base (len+m) cap) w':=by
 obtain⟨t,u,e,i,zv,ht,hu,hi,hz,hzero,hzs,hpos,hby,hnu⟩:=T;subst hz;rcases hnu with hd|⟨d,hd⟩
 all_goals
  cases base with
  | none=>simp only[Result.ok.injEq,true_and]at hst;subst hst;simp[Builtin.append_,ht,run_underlying hu,run_underlying hd,sizeOf,typeInfo,hi,hl,hf,hroom]
  | some b=>simp[Builtin.append_,ht,run_underlying hu,run_underlying hd,sizeOf,typeInfo,hi,hl,hf,hroom,hst]
theorem aPj{c:Call}{z:Nat}(T:AppT P c z)(ty:TypeId){base:Option Addr}{len cap:Nat}{y:Value}{m:Nat}{olds news:Array Value}
 (hl:(Builtin.lenOf y).run P w=.ok m w) (hroom:¬len+m<=cap) (hsmall:len+m<=2^32)
 (ho:∀w':World,w'.heap=w.heap->(Builtin.firstCells z len (.slice base len cap)).run P w'=.ok olds w')
 (hf:∀w':World,w'.heap=w.heap->(Builtin.firstCells z m y).run P w'=.ok news w') :
 ∃(newCap:Nat) (rest:Array Value) (w1:World),len+m<=newCap∧newCap<2^63∧rest.size=(newCap-(len+m))*z∧w1.heap=w.heap∧w1.os=w.os∧w1.tape=w.tape∧w1.output=w.output ∧
   (Builtin.append_ c.argTypes ty #[.slice base len cap,y]).run P w=.ok (.slice (some ⟨w.heap.size,0,none⟩) (len+m) newCap) (w1.alloc (.cells (olds++news++rest) T.e)):=by
 obtain⟨t,u,e,i,zv,ht,hu,hi,hz,hzero,hzs,hpos,hby,hnu⟩:=T;subst hz;have hge:=grownCap_ge w (len+m) cap e;have hle:=grownCap_le_maxLen w (len+m) cap e (by unfold maxLen;omega);have h48:¬(Builtin.nextslicecap (len+m) cap*i.bytes>2^48):=by
  have h1:=growslice_fits (need:=len+m) (old:=cap) (bytes:=i.bytes) (by omega) (by have:=w5 hsmall hby;omega)
  omega
 have h48':¬(281474976710656<Builtin.nextslicecap (len+m) cap*i.bytes):=by omega
 have h63:¬(9223372036854775807<(len:Int)+(m:Int)∧i.bytes=0):=by omega
 have ho1:=ho w.drew rfl;have hf1:=hf w.drew rfl;have hfo:(Question.appendCap (len+m) cap e).forced=false:=rfl;refine⟨grownCap w (len+m) cap e,Builtin.zeroCells zv.cells (grownCap w (len+m) cap e-(len+m)),w.drew,hge,by unfold maxLen at hle;omega,by rw[size_zeroCells,hzs],rfl,rfl,rfl,rfl,?_⟩;rcases hnu with hd|⟨d,hd⟩
 all_goals
  simp[Builtin.append_,ht,run_underlying hu,run_underlying hd,sizeOf,typeInfo,hi,hl,hroom,h48',h63,zeroValue,hzero,hfo,IntKind.max,IntKind.signed,IntKind.bits];simp only[ho1,Result.andThen_ok,hf1];rfl
end
end Go.Ab
namespace Go.Ab
open Go.RowKit
section
variable {P:Program} {D:Nat->Prop} {n:Nat} {hint:Nat->Nat} {s:St} {G:Ghost} {a:Act} {w:World} {o:Oper} {K:St->Prop} {next:Act->World->Prop} {Q:Exit->Act->World->Prop} {m:Option Nat}
theorem Good.drop(hg:Good P D n s G a w)(id:Nat):Good P D n (s.drop id) G a w∧Nxt s.L G w (s.drop id).L G w:=by
 have hx:Nxt s.L G w (s.drop id).L G w:=by
  refine⟨G.le_refl,Same.refl _ _,?_,rfl,rfl,rfl⟩;rintro x _ ⟨i,bi,gi,h1,h2,h3⟩;by_cases e:i=id
  .subst e;simp[St.drop,aAe]at h1
  .simp only[St.drop,aAc _ _ _ _ e]at h1;exact⟨i,bi,gi,h1,h2,h3⟩
 refine⟨hg.later hx ?_,hx⟩;refine hg.hp.turn (λ_=>False) hx hg.hp.fin (λi bi hl _=>?_) (λ_ _ _ _ _ _ _ _=>rfl) (λ_ _ _ _ _ h=>h) (λ_ _ h=>h.elim) (λ_ _ _ h=>h.elim);by_cases e:i=id
 .subst e;simp[St.drop,aAe]at hl
 .simpa only[St.drop,aAc _ _ _ _ e]using hl
theorem aK7{l ys:List V}{i j:Nat}{c:V}(h:(((l++ys)[i]?).bind λe=>e.cells[j]?)=some c):
 (i<l.length∧((l[i]?).bind λe=>e.cells[j]?)=some c)∨(l.length<=i∧((ys[i-l.length]?).bind λe=>e.cells[j]?)=some c):=by
 grind
theorem aNk{ys:List V}{i j z:Nat}{c:V}(hz:∀e,e∈ys->e.ncells=some z)(h:((ys[i]?).bind λe=>e.cells[j]?)=some c):i<ys.length∧j<z:=by
 cases he:ys[i]? with
 | none=>grind
 | some e=>rw[he,zG]at h;rw[<-aA8 (hz e (mem_of_getElem? he))];grind
theorem aUe{i j k z:Nat}(hi:i<k)(hj:j<z):i*z+j<k*z:=by
 have:(i+1)*z<=k*z:=zJ _ (by omega);grind
theorem aFk{u v:Array Value}{i:Nat}(h:i<u.size):(u++v).getD i undef=u.getD i undef:=by
 simp[zo,Array.getElem?_append_left h]
theorem aIg{u v:Array Value}{i:Nat}(h:u.size<=i):(u++v).getD i undef=v.getD (i-u.size) undef:=by
 simp[zo,Array.getElem?_append_right h]
theorem aZp{b q:Nat}{c:Array Value}{ty:TypeId}{fr:Nat×Nat}(h:w.heap[b]?=some (.cells c ty fr))(hf:¬(fr.1<=q∧q<fr.2)):w.frozen? ⟨b,q,none⟩=false:=by
 simp only[World.frozen?,h];grind
theorem aTm(hg:Good P D n s G a w){d:Nat}(hd:d<n)(hdst:o.dst=some d)(hn:∀s' G' a' w',K s'->Good P D n s' G' a' w'->Nxt s.L G w s'.L G' w'->New (some d) s G s' G'->next a' w'){c:Call}{z:Nat}(T:AppT P c z){x y:Operand}(hc:c.callee=.builtin .append)(ha:c.args.toList=[x,y])(ho:o.op=.call c)
 {base:Option Addr} {cap:Nat} {l ys:List V} {olds news:Array Value} (hx:a.eval x=.slice base l.length cap) (hroom:¬l.length+ys.length<=cap) (hsmall:l.length+ys.length<=2^32)
 (hl:(Builtin.lenOf (a.eval y)).run P w=.ok ys.length w) (hfo:∀w':World,w'.heap=w.heap->(Builtin.firstCells z l.length (a.eval x)).run P w'=.ok olds w') (hf:∀w':World,w'.heap=w.heap->(Builtin.firstCells z ys.length (a.eval y)).run P w'=.ok news w')
 (so:olds.size=l.length*z) (sn:news.size=ys.length*z) (no:∀e,e∈l->e.ncells=some z) (nn:∀e,e∈ys->e.ncells=some z)
 (ro:∀i j c,(l[i]?.bind λe=>e.cells[j]?)=some c->Rep G (Dp D s.L G) w c (olds.getD (i*z+j) undef)) (rn:∀i j c,(ys[i]?.bind λe=>e.cells[j]?)=some c->Rep G (Dp D s.L G) w c (news.getD (i*z+j) undef))
 (hfree:G (s.nx+d)=none) (hK:K ((s.add (s.nx+d) (.vec T.e z (l++ys))).set d (.own (s.nx+d) z 0 (l.length+ys.length)))):o.upon P a next Q ((execOp a.eval o).run P w):=by
 rw[hx]at hfo;obtain⟨newCap,rest,w1,h1,h2,h3,h4,h5,h6,h7,h8⟩:=aPj T o.type hl hroom hsmall hfo hf;have hG:=hfree;have hb:Below w.heap.size w (w1.alloc (.cells (olds++news++rest) T.e)):=by have:=aBr w1 (.cells (olds++news++rest) T.e);rw[h4]at this;exact⟨this.os.trans h5,this.tape.trans h6,this.output.trans h7,by simp_all,λk hk=>(this.block k hk).trans (by rw[h4])⟩
 have hself:=aA4 w1 (.cells (olds++news++rest) T.e);rw[h4]at hself;have hcap:olds.size+news.size+rest.size=newCap*z:=by rw[so,sn,h3,<-xj,<-xj];grind
 obtain⟨g1,g2⟩:=hg.newBlk hb hG (by omega) (.vec T.e z (l++ys)) ⟨w.heap.size,0,newCap,z,0⟩ (λx hx=>by simp only[Occ]at hx;grind) (λG' D' hm=>by
  refine⟨rfl,by grind,h2,λe he=>?_,λ_=>⟨_,_,_,hself,by grind,⟨λi _=>(by simp),λ_=>(by simp)⟩,λi j x hx=>?_⟩⟩
  .grind
  .have e0:(0:Nat)+i*z+j=i*z+j:=by omega
   simp only[e0];rcases aK7 hx with⟨hi,hx⟩|⟨hi,hx⟩
   .have hb:=aNk no hx;have:=aUe hb.1 hb.2;have e:(olds++news++rest).getD (i*z+j) undef=olds.getD (i*z+j) undef:=by rw[wE,aFk (by omega)]
    grind
   .have hb:=aNk nn hx;have h9:=aUe hb.1 hb.2;have h10:l.length*z<=i*z:=zJ _ hi;have h11:i*z+j-olds.size=(i-l.length)*z+j:=by rw[so,ve];omega
    have e:(olds++news++rest).getD (i*z+j) undef=news.getD ((i-l.length)*z+j) undef:=by rw[wE,aIg (by omega),h11,aFk (by omega)]
    grind)
 rw[aDa hc ha ho,hx,h8];simp only[Result.andThen_ok,Oper.upon,hdst];have g3:=g1.put (d:=some d) (x:=.own (s.nx+d) z 0 (l.length+ys.length)) (v:=.slice (some ⟨w.heap.size,0,none⟩) (l.length+ys.length) newCap) (by simpa[aA5]using hd)
  (.own _ _ _ _ ⟨w.heap.size,0,newCap,z,0⟩ _ _ (aAe _ _ _) rfl h1 rfl h2 (λ_=>by simp))
 exact hn _ _ _ _ hK g3 g2 (aF0 _ rfl rfl)
theorem bMe{d:Nat}(hd:d<n)(hdst:o.dst=some d){c:Call}{z:Nat}(T:AppT P c z){x y:Operand}{x' y':Src}(hx:opd n x=some x')(hy:opd n y=some y')(hc:c.callee=.builtin .append)(ha:c.args.toList=[x,y])(ho:o.op=.call c):
 aBc P D n o (.app d T.e z x' y'):=by
 intro s G a w K next Q h hg hn hfree
 have rx:=aAm hg hx;simp only[aAf]at h;rcases h with⟨hb,h,hK⟩|h
 .rw[hb]at rx;have ev:=aDu rx;obtain⟨ys,news,rfl,hl,hf,_⟩:=aEt (P:=P) hg hy h;rw[aDa hc ha ho,ev,aFy (w':=w) T o.type hl (hf w rfl) (by simp) rfl];simp only[Result.andThen_ok,Oper.upon,hdst];exact hn _ _ _ _ hK (hg.put (d:=some d) (x:=.nils) (v:=.slice none 0 0) (by simpa[aA5]using hd) .nils) (Nxt.refl _ _ _) (New.same rfl)
 simp only[aCn]at h;split at h
 .rename_i hb;rw[hb]at rx;have ev:=aDu rx;obtain⟨ys,news,⟨p1,p2⟩,hl,hf,sn,_,nn,rn⟩:=aEt (P:=P) hg hy h;by_cases h0:ys.length=0
  .have hys:ys=[]:=yP.1 h0;subst hys;have hG:=hfree d rfl;obtain⟨g1,g2⟩:=hg.newBlk (Below.refl _ _) hG (by omega) (.vec T.e z []) ⟨0,0,0,z,0⟩ (λx hx=>by simp[Occ]at hx) (λG' D' hm =>
    ⟨rfl,zz _,by simp,λe he=>by grind,λh=>by grind⟩)
   rw[aDa hc ha ho,ev,aFy (w':=w) T o.type hl (hf w rfl) (by simp) rfl];simp only[Result.andThen_ok,Oper.upon,hdst];have g3:=g1.put (d:=some d) (x:=.own (s.nx+d) z 0 0) (v:=.slice none 0 0) (by simpa[aA5]using hd) (.own _ _ _ _ ⟨0,0,0,z,0⟩ _ _ (aAe _ _ _) rfl (zz _) rfl (by simp) (λh=>by omega));exact hn _ _ _ _ p2 g3 g2 (aF0 _ rfl rfl)
  .exact aTm hg hd hdst hn T hc ha ho (l:=[]) (olds:=#[]) ev (by omega) (by grind) hl (λw' _=>by simp[ev,Builtin.firstCells]) hf (by simp) sn (by simp) nn (by simp) rn (hfree d rfl) (by grind)
 .rename_i id z' off m hb;rw[hb]at rx;obtain⟨g,base,cap,ev,r1,r2,r3,r4,r5,r6⟩:=aDy rx;split at h
  .rename_i ty0 sz es hL;obtain⟨hty,rfl,p0,h⟩:=h;obtain⟨ys,news,⟨p1,p2⟩,hl,hf,sn,on,nn,rn⟩:=aEt (P:=P) hg hy h;have hlo:((es.drop off).take m).length=m:=by grind
   obtain⟨l,olds,hl0,_,hfo,so,_,no,ro⟩:=aEt (P:=P) hg hx (z:=z') (K':=λl=>l=(es.drop off).take m) (by rw[hb];simp only[aAt,hL];grind);subst hl0;rw[hlo]at so hfo;by_cases hroom:m+ys.length<=cap
   .obtain⟨g',k1,e1,e2,e3,e4,e5⟩:=hg.hp.blk _ _ hL;obtain rfl:g=g':=zq (r1.symm.trans k1);obtain rfl:z'=sz:=r2.symm.trans e1;have hG:=hfree d rfl;generalize hid':s.nx+d=id' at hG p2;have hne:id≠id':=λe=>by grind
    obtain⟨gd,xd⟩:=hg.drop id
    -- the world behind the stores
    have hw:∃w':World,(match base with|some b=>(storeCells (b.add (m*z')) news.toList).run P w|none=>.ok () w)=.ok () w' ∧
     (∀x,x≠g.blk->w'.heap[x]?=w.heap[x]?)∧w'.heap.size=w.heap.size∧w'.os=w.os∧w'.tape=w.tape∧w'.output=w.output ∧
     (0<cap->base=some ⟨g.blk,g.off+off*z',none⟩∧∃c ty fr,w.heap[g.blk]?=some (.cells c ty fr)∧(g.off+g.cap*z'<=c.size∧ty=ty0)∧OpenV fr g.off (g.cap*z') c.size z' ∧
      (∀i j x,(es[i]?.bind λe=>e.cells[j]?)=some x->Rep G (Dp D s.L G) w x (c.getD (g.off+i*z'+j) undef))∧w'.heap[g.blk]?=some (.cells (putL c (g.off+off*z'+m*z') news.toList) ty fr))∧(cap=0->w'=w):=by
     rcases y4 cap with h0|h0
     .have hy0:ys.length=0:=by omega
      have hn0:news.toList=[]:=by simp_all
      refine⟨w,?_,λ_ _=>rfl,rfl,rfl,rfl,rfl,λh=>by omega,λ_=>rfl⟩;cases base<;>simp[hn0,storeCells]
     .obtain rfl:=r6 h0;obtain⟨c',ty,fr,k2,k3,k4,k5⟩:=e5 (by omega);obtain⟨s1,s2,s3,s4,s5,s6⟩:=aDs g.blk news.toList (g.off+off*z'+m*z') w k2;have hfit:off*z'+m*z'+ys.length*z'<=g.cap*z':=by rw[<-xj,<-xj];exact zJ _ (by omega)
      refine⟨_,?_,s2,s3,s4,s5,s6,λ_=>⟨rfl,c',ty,fr,k2,k3,k4,k5,s1⟩,λh=>by omega⟩;show(storeCells ((⟨g.blk,g.off+off*z',none⟩:Addr).add (m*z')) news.toList).run P w=_;rw[aFe];have:=run_storeCells_cells (P:=P) g.blk (g.off+off*z'+m*z') news.toList 0 w (λj hj=>by rw[aA9 k2];grind) (λj hj=>by have h3:=k4 (off*z'+m*z'+j) (by grind);exact aZp k2 (by omega)) on
      omega
    obtain⟨w',hst,o1,o2,o3,o4,o5,o6,o7⟩:=hw;have hown:∀x,Own (s.drop id).L G x->Own s.L G x:=λx=>by
     rintro⟨i,bi,gi,q1,q2,q3⟩;by_cases e:i=id
     .subst e;simp[St.drop,aAe]at q1
     .simp only[St.drop,aAc _ _ _ _ e]at q1;exact⟨i,bi,gi,q1,q2,q3⟩
    let gb:GB:=⟨g.blk,g.off+off*z',cap,z',g.aux⟩;have hx:Nxt s.L G w ((s.drop id).add id' (.vec T.e z' ((es.drop off).take m++ys))).L (upd G id' (some gb)) w':=by
     refine⟨aT5 hG gb,⟨by omega,λx hx hnx=>?_⟩,?_,o3,o4,o5⟩
     .rcases y4 cap with h0|h0
      .grind
      .refine o1 x λe=>hnx ⟨id,_,g,hL,r1,?_⟩;exact⟨by omega,e⟩
     .rintro x hx ⟨i,bi,gi,q1,q2,q3⟩;by_cases e:i=id'
      .subst e;simp only[St.add,aAe,za]at q1 q2;subst q1 q2;have q3':0<cap∧x=g.blk:=q3;exact⟨id,_,g,hL,r1,⟨by omega,q3'.2⟩⟩
      .simp only[St.add,aAc _ _ _ _ e]at q1 q2;exact hown x ⟨i,bi,gi,q1,q2,q3⟩
    have hgood:Good P D n ((s.drop id).add id' (.vec T.e z' ((es.drop off).take m++ys))) (upd G id' (some gb)) a w':=by
     refine hg.later hx ?_;refine hg.hp.turn (·=id') hx (λi hi=>(aAc _ _ _ _ (show i≠id' from λe=>by subst e;have hi':s.nx+n<=i:=hi;omega)).trans (hg.hp.fin i hi)) (λi bi hl' hni=>?_) (λi bi gi x hl' hni hgi hocc=>?_) (λi bi gi _ hni hgi=>by rw[aAc _ _ _ _ hni];omega) (λi j hi hj=>hi.trans hj.symm) (λi bi hl' hi=>?_)
     .by_cases e:i=id
      .subst e;simp[St.add,St.drop,upd,hni]at hl'
      .simpa[St.add,St.drop,upd,hni,e]using hl'
     .by_cases e:i=id
      .subst e;simp[St.add,St.drop,upd,hni]at hl'
      .have hl2:s.L i=some bi:=by simpa[St.add,St.drop,upd,hni,e]using hl'
       rcases y4 cap with h0|h0
       .grind
       .refine o1 x λex=>?_;exact hg.hp.apart i id bi _ gi g x hl2 hL hgi r1 e hocc ⟨by omega,ex⟩
     .subst hi;simp only[St.add,aAe,za]at hl';subst hl';refine⟨gb,aAe _ _ _,?_,λx hocc=>?_⟩
      .refine⟨rfl,by grind,by grind,λe he=>?_,λhcap=>?_⟩
       .grind
       .obtain⟨_,c',ty,fr,k2,k3,k4,k5,k6⟩:=o6 hcap;have hfit:off*z'+cap*z'=g.cap*z':=by grind
        have hfit2:m*z'+ys.length*z'<=cap*z':=by rw[<-xj];exact zJ _ hroom
        obtain⟨u1,u2⟩:=aHd news.toList c' (g.off+off*z'+m*z') (by grind);refine⟨_,ty,fr,k6,⟨by grind,k3.2.trans hty⟩,⟨λi hi=>?_,by rw[u1];exact k4.un⟩,λi j x hx'=>?_⟩
        .have:=k4 (off*z'+i) (by grind);grind
        .show Rep _ _ _ x ((putL c' (g.off+off*z'+m*z') news.toList).getD (g.off+off*z'+i*z'+j) undef);rw[u2];have hnl:news.toList.length=ys.length*z':=by omega
         rcases aK7 hx' with⟨hi,hx'⟩|⟨hi,hx'⟩
         .rw[hlo]at hi;have hb':=aNk no hx';have:=aUe hi hb'.2;rw[if_neg (by omega)];rw[y6 hi,xR]at hx';have:=k5 _ _ _ hx';rw[xj]at this;have e:g.off+off*z'+i*z'+j=g.off+(off*z'+i*z')+j:=by omega
          rw[e];exact hx.rep this
         .rw[hlo]at hi hx';have hb':=aNk nn hx';have h9:=aUe hb'.1 hb'.2;have h10:m*z'<=i*z':=zJ _ hi;have h11:i*z'+j-m*z'=(i-m)*z'+j:=by rw[ve];omega
          have h12:g.off+off*z'+i*z'+j-(g.off+off*z'+m*z')=(i-m)*z'+j:=by omega
          rw[if_pos (by omega),h12];have:=rn _ _ _ hx';exact hx.rep (by simpa[zo,List.getD]using this)
      .have hocc':0<cap∧x=g.blk:=hocc;have haway:=hg.hp.away x ⟨id,_,g,hL,r1,⟨by omega,hocc'.2⟩⟩;refine⟨by omega,haway.2,λi2 b2 g2 hl2 hn2 hg2 ho2=>?_⟩;by_cases e:i2=id
       .subst e;simp[St.add,St.drop,upd,hn2]at hl2
       .have hl3:s.L i2=some b2:=by simpa[St.add,St.drop,upd,hn2,e]using hl2
        exact hg.hp.apart i2 id b2 _ g2 g x hl3 hL hg2 r1 e ho2 ⟨by omega,hocc'.2⟩
    rw[aDa hc ha ho,ev,aFy (w':=w') T o.type hl (hf w rfl) hroom hst];simp only[Result.andThen_ok,Oper.upon,hdst];have g3:=hgood.put (d:=some d) (x:=.own id' z' 0 (m+ys.length)) (v:=.slice base (m+ys.length) cap) (by simpa[aA5]using hd)
     (.own _ _ _ _ gb _ _ (aAe _ _ _) rfl hroom rfl (by grind) (λh=>by grind))
    exact hn _ _ _ _ p2 g3 hx (aF0 gb rfl hid'.symm)
   .obtain⟨gd,xd⟩:=hg.drop id;refine aTm gd hd hdst (λs' G' a' w' hk hgood hnx hnew=>hn s' G' a' w' hk hgood (xd.trans hnx) hnew) T hc ha ho (l:=(es.drop off).take m) (ys:=ys) (by rw[hlo];exact ev) (by omega) (by omega) hl (by grind) hf (by grind) sn no nn
     (λi j c hc=>xd.rep (ro i j c hc)) (λi j c hc=>xd.rep (rn i j c hc)) (hfree d rfl) ?_
    rw[hlo];exact p2
  grind
 grind
theorem bM5{d:Nat}(hd:d<n)(hdst:o.dst=some d){c:Call}{z:Nat}(T:AppT P c z){x y:Operand}{y':Src}(hx:opd n x=some (.k .nils))(hy:opd n y=some y')(hc:c.callee=.builtin .append)(ha:c.args.toList=[x,y])(ho:o.op=.call c):
 aBc P D n o (.appl d T.e z y'):=by
 intro s G a w K next Q h hg hn hfree
 refine bMe (P:=P) (D:=D) hd hdst T hx hy hc ha ho s G a w K next Q ?_ hg hn hfree
 show(_∧_)∨aCn d T.e z V.nils (s.ev y') s K;refine .inr ?_;simp only[aAf]at h;simp only[aCn];generalize s.ev y'=v at h ⊢;cases v with
 | nils=>exact⟨by simp,h⟩
 | lst sz es=>exact⟨h.1,h.2.1,h.2.2⟩
 | _=>grind
end
end Go.Ab
namespace Go.Ab
open Go.RowKit
section
variable {P:Program} {D:Nat->Prop} {n:Nat} {hint:Nat->Nat} {s:St} {G:Ghost} {a:Act} {w:World} {o:Oper} {K:St->Prop} {next:Act->World->Prop} {Q:Exit->Act->World->Prop} {m:Option Nat}
theorem aEd(hg:Good P D n s G a w):∀{xs:List Operand} {qs:List Src},opds n xs=some qs->qs.length=xs.length∧∀(i:Nat) (y:V),(qs.map s.ev)[i]?=some y->Rep G (Dp D s.L G) w y ((xs.map a.eval)[i]?.getD undef)
 | [],qs,h=>by simp[opds]at h;grind
 | x::r,qs,h=>by
   simp only[opds]at h;split at h
   .rename_i y z h1 h2;simp only[za]at h;subst h;obtain⟨l1,l2⟩:=aEd hg h2;refine⟨by grind,λi u hu=>?_⟩;cases i with
    | zero=>simp at hu;subst hu;simpa using aAm hg h1
    | succ i=>grind
   grind
theorem aNq{c:Call}{f:Nat}(hc:c.callee=.value (.func f))(hb:aBk P f=true)(ho:o.op=.call c):(execOp a.eval o).run P w=.ok (.enter f (c.args.map a.eval)) w:=by
 unfold aBk at hb;split at hb
 .rename_i fn hf;simp only[zc,bne_iff_ne,ne_eq,yt]at hb;obtain⟨⟨body,hb⟩,hnm⟩:=hb;simp only[execOp,ho,resolve,hc];simp[Act.eval,Deferred.ofValue,invoke,callFunc,hf,hb,hnm]
 grind
theorem aQb{c:Call}{x:Operand}{f:Nat}{vs:Array Value}(hc:c.callee=.value x)(hv:a.eval x=.func (.func f) #[] vs)(hb:aBk P f=true)(ho:o.op=.call c):(execOp a.eval o).run P w=.ok (.enter f (c.args.map a.eval++vs)) w:=by
 unfold aBk at hb;split at hb
 .rename_i fn hf;simp only[zc,bne_iff_ne,ne_eq,yt]at hb;obtain⟨⟨body,hb⟩,hnm⟩:=hb;simp only[execOp,ho,resolve,hc];simp[hv,Deferred.ofValue,invoke,callFunc,hf,hb,hnm]
 grind
theorem bMl(hd:aA5 n o.dst=true){f:Nat}{first captured:Array Operand}{qs:List Src}(h1:first.isEmpty=true)(hq:opds n captured.toList=some qs)(ho:o.op=.makeFunc (.func f) first captured):aBc P D n o (.clos o.dst f qs):=by
 intro s G a w K next Q h hg hn hfree
 obtain⟨l1,l2⟩:=aEd hg hq;simp only[aAf]at h;have e:first=#[]:=by grind
 subst e;refine aA1 hg hd hn (x:=.fn f (qs.map s.ev)) (v:=.func (.func f) #[] (captured.map a.eval)) ?_ (.fn _ _ _ (by grind) λi c hc=>?_) h
 .simp only[execOp,ho,aD8];simp[Instr.makeFunc]
 .have h1:=l2 i c hc;simp_all
theorem bJv(hd:aA5 n o.dst=true){c:Call}{f:Nat}{qs:List Src}(hc:c.callee=.value (.func f))(hb:aBk P f=true)(hq:opds n c.args.toList=some qs)(ho:o.op=.call c):aBc P D n o (.call o.dst true f qs):=by
 intro s G a w K next Q h hg hn hfree
 obtain⟨l1,l2⟩:=aEd hg hq;simp only[aAf,if_true]at h;obtain⟨r,hp,hi,_,hK⟩:=h;rw[aNq hc hb ho];simp only[Oper.upon];have hlt:∀b,Dp D s.L G b->b<w.heap.size:=λb hb=>hb.elim (hg.hp.dlt b) λh=>(hg.hp.away b h).1;refine(hp (Dp D s.L G) w (c.args.map a.eval) hlt hg.hp.gl.out (by grind) λi y hy=>?_).mono ?_
 .have h1:=l2 i y hy;have:(c.args.map a.eval).getD i undef=(c.args.toList.map a.eval)[i]?.getD undef:=by simp
  rw[this];exact h1.free (aBh hi (mem_of_getElem? hy)) _
 .rintro e w' ⟨v,rfl,hb',hr⟩;obtain⟨g1,g2⟩:=hg.grow hb';have hr':Rep G (Dp D s.L G) w' r v:=hr.mono (λ_ _ h=>by cases h) (λb _ h=>h) (Same.refl _ _);exact hn _ _ _ _ hK (g1.put hd hr') (by rw[aDo];exact g2) (New.same (aCl _ _ _))
theorem aS8(L:Heap):∀(k:Nat) {x:V},x.one=true->(view L k x).one=true
 | 0,x,h=>by cases x<;>simpa[view]using h
 | k+1,x,h=>by
   cases x with
   | own id sz off len =>
     simp only[view];cases hb:L id with
     | none=>rfl
     | some b =>
       cases b with
       | vec ty0 sz' es =>
         by_cases hf:off+len<=es.length
         .simp only[hf,if_true];rfl
         grind
       | _=>rfl
   | ptr id o =>
     simp only[view];cases hb:L id with
     | none=>rfl
     | some b=>cases b<;>rfl
   | _=>simp[V.one]at h<;>simp[view,V.one,h]
theorem aL8(L:Heap)(k:Nat){x:V}{z:Nat}(h:x.ncells=some z):(view L k x).ncells=some z∧∀(j:Nat) (c:V),(view L k x).cells[j]?=some c->∃c0 m,m<=k∧x.cells[j]?=some c0∧c=view L m c0:=by
 cases k with
 | zero =>
   have e:view L 0 x=x:=by rfl
   rw[e];exact⟨h,λj c hc=>⟨c,0,zz _,hc,by rfl⟩⟩
 | succ k =>
   unfold V.ncells at h;split at h
   .rename_i cs;split at h
    .rename_i hall;simp only[view,V.ncells,V.cells,zb];rw[if_pos]
     .grind
     .simp only[zx,zQ]at hall ⊢;rintro c ⟨c0,h0,rfl⟩;exact aS8 L k (hall c0 h0)
    grind
   .rename_i hx;split at h
    .rename_i h1;have h2:=aS8 L (k+1) h1;have hc:∀y:V,y.one=true->y.cells=[y]∧y.ncells=some 1:=by
      intro y hy;cases y<;>simp[V.one]at hy<;>simp[V.cells,V.ncells,V.one,hy]
     grind
    grind
theorem aHh(hp:Hp P D n s G w):∀(k:Nat) {x:V} {v:Value},Rep G (Dp D s.L G) w x v->∀m,m<=k->Rep G D w (view s.L m x) v:=by
 intro k;induction k with
 | zero =>
   intro x v h m hm;obtain rfl:m=0:=by omega
   have e:view s.L 0 x=x:=by rfl
   rw[e];exact h.mono G.le_refl (λb _ hn hd=>hn (.inl hd)) (Same.refl _ _)
 | succ k ih =>
   intro x v h m hm;rcases Nat.lt_or_ge m (k+1)with hlt|hge
   .grind
   obtain rfl:m=k+1:=by omega
   have plain:Rep G D w x v:=h.mono G.le_refl (λb _ hn hd=>hn (.inl hd)) (Same.refl _ _);cases x with
   | own id sz off len =>
     simp only[view];split
     .rename_i sz' es hL;split
      .rename_i hfit;obtain⟨g,base,cap,ev,r1,r2,r3,r4,r5,r6⟩:=aDy h;obtain⟨g',k1,e1,e2,e3,e4,e5⟩:=hp.blk _ _ hL;obtain rfl:g=g':=zq (r1.symm.trans k1);obtain rfl:sz=sz':=r2.symm.trans e1;rw[ev];have hlen:(((es.drop off).take len).map (view s.L k)).length=len:=by grind
       have get:∀(i j:Nat) (c:V),(((((es.drop off).take len).map (view s.L k))[i]?).bind λe=>e.cells[j]?)=some c->∃c0 m,m<=k∧((es[off+i]?).bind λe=>e.cells[j]?)=some c0∧c=view s.L m c0∧i<len∧j<sz:=by
        intro i j c hc;cases he:((es.drop off).take len)[i]? with
        | none=>grind
        | some e =>
          simp only[yu,he,zL,zG]at hc;have hmem:e∈es:=yo (yE (mem_of_getElem? he));obtain⟨q1,q2⟩:=aL8 s.L k (e4 e hmem);obtain⟨c0,m,hm,h1,h2⟩:=q2 j c hc;have hi:i<len:=by grind
          rw[y6 hi,xR]at he;refine⟨c0,m,hm,by grind,h2,hi,?_⟩;rw[<-aA8 (e4 e hmem)];grind
       have key:Rep G D w (.lst sz (((es.drop off).take len).map (view s.L k))) (.slice base (((es.drop off).take len).map (view s.L k)).length cap):=by
        refine .lst _ _ _ _ g.blk (g.off+off*sz) (by omega) (by omega) (λh0=>⟨r6 (by omega),?_⟩) (λe he=>?_) (λi j c hc=>?_) (λi j c hc=>?_)
        .exact hp.away _ ⟨id,_,g,hL,r1,⟨by omega,rfl⟩⟩
        .obtain⟨e0,h0,rfl⟩:=zQ.1 he;exact(aL8 s.L k (e4 e0 (yo (yE h0)))).1
        .obtain⟨c0,m,_,q1,_,q3,q4⟩:=get i j c hc;obtain⟨c',ty,fr,k2,k3,k4,k5⟩:=e5 (by omega);rw[aA9 k2];have:(off+i+1)*sz<=g.cap*sz:=zJ _ (by omega);grind
        .obtain⟨c0,m,hm,q1,rfl,q3,q4⟩:=get i j c hc;obtain⟨c',ty,fr,k2,k3,k4,k5⟩:=e5 (by omega);rw[aBj k2];have:=k5 _ _ _ q1;grind
       grind
      omega
     omega
   | ptr id o =>
     simp only[view];split
     .rename_i ty cs hL;obtain⟨g,hG,ev⟩:=aFw h;obtain⟨g',k1,c',ty',fr,e1,e2,e3,e4,e5⟩:=hp.blk _ _ hL;obtain rfl:g=g':=zq (hG.symm.trans k1);rw[ev,e3,w8];obtain⟨w1,w2⟩:=hp.away g.blk ⟨id,_,g,hL,k1,rfl⟩;have get:∀(j:Nat) (c:V),((cs.drop o).map (view s.L k))[j]?=some c->∃c0,cs[o+j]?=some c0∧c=view s.L k c0:=λj c hc=>by
       grind
      refine .cptr _ g.blk o w1 w2 (λj c hc=>?_) (λj c hc=>?_)
      .obtain⟨c0,h0,_⟩:=get j c hc;have:=(zS.1 h0).1;rw[aA9 e1];grind
      .obtain⟨c0,h0,rfl⟩:=get j c hc;rw[aBj e1];grind
     omega
   | fn f cs=>obtain⟨vs,rfl,hl,hr⟩:=aOr h;simp only[view];refine .fn _ _ _ (by grind) λi c hc=>?_;grind
   | agg cs=>obtain⟨vs,rfl,hl,hr⟩:=aFx h;simp only[view];refine .agg _ _ (by grind) λi c hc=>?_;grind
   | tup cs=>obtain⟨vs,rfl,hl,hr⟩:=aQ0 h;simp only[view];refine .tup _ _ (by grind) λi c hc=>?_;grind
   | _=>exact plain
theorem bLs(hd:aA5 n o.dst=true){c:Call}{f:Nat}{qs:List Src}(hc:c.callee=.value (.func f))(hb:aBk P f=true)(hq:opds n c.args.toList=some qs)(ho:o.op=.call c):aBc P D n o (.call o.dst false f qs):=by
 intro s G a w K next Q h hg hn hfree
 obtain⟨l1,l2⟩:=aEd hg hq;simp only[aAf,Bool.false_eq_true,if_false]at h;obtain⟨r,hp,hi,hf,hK⟩:=h;rw[aNq hc hb ho];simp only[Oper.upon];refine(hp D w (c.args.map a.eval) hg.hp.dlt hg.hp.gl.outD (by grind) λi y hy=>?_).mono ?_
 .simp only[yu,zm]at hy;obtain⟨q,hq',rfl⟩:=hy;have h1:=l2 i (s.ev q) (by grind);have:(c.args.map a.eval).getD i undef=(c.args.toList.map a.eval)[i]?.getD undef:=by simp
  rw[this];refine(aHh hg.hp 3 h1 3 (zz _)).free (aBh hi (zQ.2 ⟨q,y7 hq',rfl⟩)) _
 .rintro e w' ⟨v,rfl,hb',hr⟩;obtain⟨g1,g2⟩:=hg.grow hb';exact hn _ _ _ _ hK (g1.put hd (hr.flat hf _ _ _)) (by rw[aDo];exact g2) (New.same (aCl _ _ _))
theorem bLg(hd:aA5 n o.dst=true){c:Call}{t:Nat}{qs:List Src}(hc:c.callee=.value (.tmp t))(ht:t<n)(hq:opds n c.args.toList=some qs)(ho:o.op=.call c):aBc P D n o (.pcall o.dst (.t t) qs):=by
 intro s G a w K next Q h hg hn hfree
 obtain⟨l1,l2⟩:=aEd hg hq;simp only[aAf]at h;split at h
 .rename_i f cs hfn;obtain⟨hb,r,hp,hi,hf,hK⟩:=h;have rx:=aHh hg.hp 4 (aAm hg (show opd n (.tmp t)=some (.t t)by simp only[opd,if_pos ht])) 4 (zz _);rw[hfn]at rx;obtain⟨vs,hv,hvl,hvr⟩:=aOr rx;rw[aQb hc hv hb ho];simp only[Oper.upon];refine(hp D w (c.args.map a.eval++vs) hg.hp.dlt hg.hp.gl.outD (by grind) λi y hy=>?_).mono ?_
  .by_cases hi':i<qs.length
   .have hy2:=hy;rw[List.getElem?_append_left (by grind)]at hy;simp only[yu,zm]at hy;obtain⟨q,hq',rfl⟩:=hy;have h1:=l2 i (s.ev q) (by grind);have:(c.args.map a.eval++vs).getD i undef=(c.args.toList.map a.eval)[i]?.getD undef:=by
     have hi':i<c.args.size:=by grind
     simp[zo,yS,hi']
    rw[this];exact(aHh hg.hp 3 h1 3 (zz _)).free (aBh hi (y7 hy2)) _
   .have hy2:=hy;rw[List.getElem?_append_right (by grind)]at hy;have h1:=hvr _ _ hy;have:(c.args.map a.eval++vs).getD i undef=vs.getD (i-(qs.map λa=>view s.L 3 (s.ev a)).length) undef:=by
     have hi':¬i<c.args.size:=by grind
     have hz:qs.length=c.args.size:=by omega
     simp[zo,yS,hi',hz]
    rw[this];exact h1.free (aBh hi (y7 hy2)) _
  .rintro e w' ⟨v,rfl,hb',hr⟩;obtain⟨g1,g2⟩:=hg.grow hb';have hr':Rep G (Dp D s.L G) w' r v:=hr.flat hf _ _ _;exact hn _ _ _ _ hK (g1.put hd hr') (by rw[aDo];exact g2) (New.same (aCl _ _ _))
 grind
theorem aGn:∀{ks qs:List Nat} {a b:List V} {t:Bool},aBe (ks++qs) a b=some t->∃a1 a2 b1 b2 t1 t2,a=a1++a2∧b=b1++b2∧a1.length=ks.length∧b1.length=ks.length∧aBe ks a1 b1=some t1∧aBe qs a2 b2=some t2∧t=(t1&&t2)
 | [],qs,a,b,t,h=>⟨[],a,[],b,true,t,rfl,rfl,rfl,rfl,rfl,h,by simp⟩
 | k::ks,qs,a,b,t,h=>by
   cases a with
   | nil=>cases b<;>simp[aBe]at h
   | cons x r =>
     cases b with
     | nil=>simp[aBe]at h
     | cons y q =>
       simp only[List.cons_append,aBe]at h;split at h
       .rename_i u v h1 h2;simp only[za]at h;subst h;obtain⟨a1,a2,b1,b2,t1,t2,rfl,rfl,l1,l2,k1,k2,rfl⟩:=aGn h2;exact⟨x::a1,a2,y::b1,b2,u&&t1,t2,rfl,rfl,by grind,by grind,by simp only[aBe,h1,k1],k2,by grind⟩
       grind
theorem aGs:∀{ks:List Nat} {a b:List V} {t:Bool},aBe ks a b=some t->a.length=ks.length∧b.length=ks.length
 | [],a,b,t,h=>by cases a<;>cases b<;>simp[aBe]at h<;>simp
 | k::ks,a,b,t,h=>by
   cases a with
   | nil=>cases b<;>simp[aBe]at h
   | cons x r =>
     cases b with
     | nil=>simp[aBe]at h
     | cons y q =>
       simp only[aBe]at h;split at h
       .rename_i u v h1 h2;obtain⟨l1,l2⟩:=aGs h2;grind
       grind
theorem aIw(d k:Nat){G:Ghost}{D:Nat->Prop}{cs ds:List V}{vs us:Array Value}(hv:RepC G D w cs vs)(hu:RepC G D w ds us)
 (ih:∀(t:TypeId) (z:List Nat) (ag:Bool) (c e:List V) (X Y:Value) (b:Bool),aHy P d t=some z->aEn P t=some ag->Rep G D w (pack ag c) X->Rep G D w (pack ag e) Y->aBe z c e=some b->(Op.equalIn (d+k) t X Y).run P w=.ok b w) :
 ∀(fs:List Field) (acc:Nat) (z:List Nat) (b:Bool),acc<=cs.length->acc<=ds.length->aZm P (aHy P d) acc fs=some z->aBe z (cs.drop acc) (ds.drop acc)=some b->(Op.eqFields (d+k) vs us fs).run P w=.ok b w
 | [],acc,z,b,_,_,h,hb=>by
   simp only[aZm,za]at h;subst h;generalize cs.drop acc=p at hb;generalize ds.drop acc=q at hb;cases p<;>cases q<;>simp[aBe]at hb
   subst hb;rfl
 | f::r,acc,z,b,hc1,hc2,h,hb=>by
   simp only[aZm]at h;split at h
   .rename_i zf ag h1 h2;split at h
    .rename_i hc;simp only[zc,bne_iff_ne,ne_eq,decide_eq_true_eq,Bool.or_eq_true]at hc;obtain⟨⟨⟨n1,n2⟩,n3⟩,n4⟩:=hc;simp only[zm]at h;obtain⟨zr,h,rfl⟩:=h;obtain⟨a1,a2,b1,b2,t1,t2,e1,e2,l1,l2,k1,k2,rfl⟩:=aGn hb;have m1:acc+zf.length<=cs.length:=by
      have:=congrArg xc e1;grind
     have m2:acc+zf.length<=ds.length:=by have:=congrArg xc e2;grind
     have l3:(cs.drop acc).take zf.length=a1:=by grind
     have l4:(ds.drop acc).take zf.length=b1:=by grind
     have l5:cs.drop (acc+zf.length)=a2:=by rw[<-xW,e1,<-l1,wW]
     have l6:ds.drop (acc+zf.length)=b2:=by rw[<-xW,e2,<-l2,wW]
     have p1:=aJh (P:=P) (w:=w) (vs:=vs) (off:=acc) n3 h2 n4 (by rw[<-hv.1];exact m1);have p2:=aJh (P:=P) (w:=w) (vs:=us) (off:=acc) n3 h2 n4 (by rw[<-hu.1];exact m2);have q1:=aJc (w:=w) hv.1 hv.2 (off:=acc) (z:=zf.length) (ag:=ag) m1 n4;have q2:=aJc (w:=w) hu.1 hu.2 (off:=acc) (z:=zf.length) (ag:=ag) m2 n4;rw[l3]at q1;rw[l4]at q2;have e:=ih _ _ _ _ _ _ _ t1 h1 h2 q1 q2 k1;have rest:=aIw d k hv hu ih r (acc+zf.length) zr t2 m1 m2 h (by grind);simp only[Op.eqFields,n1,not_false_eq_true,ne_eq,if_true,Sem.run_bind,n2,p1,p2,Result.andThen_ok,e];cases t1
     .rfl
     grind
    grind
   grind
theorem aQa{G:Ghost}{D:Nat->Prop}:∀(d k:Nat) (t:TypeId) (z:List Nat) (ag:Bool) (c e:List V) (X Y:Value) (b:Bool),aHy P d t=some z->aEn P t=some ag->Rep G D w (pack ag c) X->Rep G D w (pack ag e) Y->aBe z c e=some b->(Op.equalIn (d+k) t X Y).run P w=.ok b w
 | 0,k,t,z,ag,c,e,X,Y,b,h,_,_,_,_=>by simp[aHy]at h
 | d+1,k,t,z,ag,c,e,X,Y,b,h,hag,hX,hY,hb=>by
   have one:∀q,z=[q]->ag=false->∃x y,aEa q x y=some b∧Rep G D w x X∧Rep G D w y Y:=by
    intro q hz hagf;subst hz hagf;obtain⟨l1,l2⟩:=aGs hb
    match c,e,l1,l2 with
    | [x],[y],_,_ =>
      simp only[aBe]at hb;split at hb
      .rename_i u v h1 h2;simp only[za]at h2 hb;subst h2 hb;exact⟨x,y,by grind,hX,hY⟩
      grind
   rw[show d+1+k=(d+k)+1 by omega];simp only[aHy]at h;split at h
   .rename_i fs hu;split at h
    .grind
    .rename_i hst;have:ag=true:=by simp[aEn,hu]at hag;omega
     subst this;simp only[pack,if_true]at hX hY;obtain⟨vs,rfl,v1,v2⟩:=aFx hX;obtain⟨us,rfl,u1,u2⟩:=aFx hY;have hf:P.fieldsOf t=fs:=by simp[Program.fieldsOf,hu]
     rw[run_equalIn_struct w (d+k) t vs us (by grind) (by grind),hf];exact aIw d k (cs:=c) (ds:=e) ⟨v1,v2⟩ ⟨u1,u2⟩ (λt z ag c e X Y b=>aQa d k t z ag c e X Y b) fs.toList 0 z b (xK _) (xK _) h (by grind)
   .rename_i kk hu;simp only[za]at h;obtain⟨x,y,hxy,hx,hy⟩:=one _ h.symm (by simp[aEn,hu]at hag;omega);cases x<;>cases y<;>simp[aEa]at hxy
    obtain⟨rfl,rfl⟩:=hxy;obtain rfl:=aCe hx;obtain rfl:=aCe hy;rw[run_equalIn_int w (d+k) t _ _ _ _ hu,aY8]
   .rename_i hu;simp only[za]at h;obtain⟨x,y,hxy,hx,hy⟩:=one _ h.symm (by simp[aEn,hu]at hag;omega);cases x<;>cases y<;>simp[aEa]at hxy
    subst hxy;obtain⟨rfl,_⟩:=aEk hx;obtain⟨rfl,_⟩:=aEk hy;rw[run_equalIn_string w (d+k) t _ _ hu,aK4,aK4,aY8]
   .rename_i hu;simp only[za]at h;obtain⟨x,y,hxy,hx,hy⟩:=one _ h.symm (by simp[aEn,hu]at hag;omega);cases x<;>cases y<;>simp[aEa]at hxy
    subst hxy;obtain rfl:=aDr hx;obtain rfl:=aDr hy;rw[run_equalIn_bool w (d+k) t _ _ hu]
   grind
theorem bQ4(hd:aA5 n o.dst=true){op:BinOp}{t t':TypeId}{fs:Array Field}{x y:Operand}{x' y':Src}{ks:List Nat}(hx:opd n x=some x')(hy:opd n y=some y')(hop:op=.eql∨op=.neq)
 (hu:P.underlying t=some (.struct fs)) (hk:aHy P 100 t=some ks) (hgd:P.eqGuardType P.depth t=false) (ho:o.op=.binOp op t x y t'):aBc P D n o (.eqA o.dst (op==.neq) ks x' y'):=by
 intro s G a w K next Q h hg hn hfree
 have rx:=aAm hg hx;have ry:=aAm hg hy;simp only[aAf]at h;split at h
 .rename_i p q hp hq;rw[hp]at rx;rw[hq]at ry;obtain⟨b,hb,hK⟩:=h;have hag:aEn P t=some true:=by simp[aEn,hu]
  have e:=aQa (w:=w) 100 9900 t ks true p q (a.eval x) (a.eval y) b hk hag rx ry hb;obtain⟨vs,ex,_⟩:=aFx rx;obtain⟨us,ey,_⟩:=aFx ry;refine aA1 hg hd hn (x:=.bool (b != (op==.neq))) (v:=.bool (b != (op==.neq))) ?_ (.bool _) hK;rw[ex,ey]at e;simp only[execOp,ho,ex,ey];rw[aD8,Sem.run_bind,run_eqGuard_agg w op t x y vs us hgd,Result.andThen_ok,aH4 hop e (by simp) (by simp) (by simp) (by simp)];rfl
 grind
end
end Go.Ab
