/- Several texts of one kind, merged. No condition. -/
import Derived.Test.YtikmbicdjpkipaaGreatDoorAbE1
import Derived.Laws.IdiomCopy
import Derived.Laws.IdiomRangeMap
import Derived.Laws.Append
import Derived.Laws.MakeOwn
import Derived.Laws.IdiomStrings
set_option linter.unusedSimpArgs false
set_option linter.unusedVariables false
namespace Go.Ab
open Go.RowKit
section
variable {P:Program} {D:Nat→Prop} {n:Nat} {hint:Nat→Nat} {s:St} {G:Ghost} {a:Act} {w:World} {o:Oper} {K:St→Prop} {next:Act→World→Prop} {Q:Exit→Act→World→Prop} {m:Option Nat}
theorem aA9 {b q:Nat} {c:Array Value} {ty:TypeId} {fr:Nat×Nat} (h:w.heap[b]?=some (.cells c ty fr)):w.cell? ⟨b,q,none⟩=c[q]?:=by simp [World.cell?,h]
theorem aBo {b q:Nat} {c:Array Value} {ty:TypeId} {fr:Nat×Nat} (h:w.heap[b]?=some (.cells c ty fr)):aDt w b q=c.getD q undef:=by simp [aDt,aA9 h,Array.getD_eq_getD_getElem?]
theorem aA7 {x:V} {k:Nat} (h:x.ncells=some k):x.cells.length=k:=by
 unfold V.ncells at h
 split at h
 ·split at h
  ·simpa [V.cells] using h
  ·simp at h
 ·rename_i hx
  split at h
  ·rename_i h1
   cases x <;> simp [V.one] at h1 <;> simpa [V.cells] using h
  ·simp at h
theorem bDs (hd:aA4 n o.dst=true) {t:TypeId} {z:Nat} {ag c:Bool} {x:Operand} {x':Src} (hx:opd n x=some x') (hz:szOf P t=some z) (ha:aCp P t=some ag) (h1:ag=true∨z=1) (ho:o.op=.load t x) :
 aBe P D n o (.load o.dst c z ag x'):=by
 intro s G a w K next Q h hg hn hfree
 have rx:=aAi hg hx
 have fin:∀ b q (cs:List V),a.eval x=.pointer (some ⟨b,q,none⟩)→cs.length=z→(∀ j c,cs[j]?=some c→(w.cell? ⟨b,q+j,none⟩).isSome=true)→(∀ j c,cs[j]?=some c→Rep G (Dp D s.L G) w c (aDt w b (q+j))) →
  K (s.setO o.dst (pack ag cs))→o.upon P a next Q ((execOp a.eval o).run P w):=by
  intro b q cs hv hl hs hr hK
  refine aAx hg hd hn (x:=pack ag cs) ?_ (aUb hl h1 hr) hK
  simp only [execOp,ho,hv,aDl,Instr.loadAt,Instr.sureAddr,Sem.run_bind,Sem.run_pure,Result.andThen_ok]
  rw [aK4 hz ha h1 fun j hj=>hs j cs[j] (by simp [hl,hj])]
  rfl
 simp only [aAc] at h
 split at h
 ·rename_i cs hb
  rw [hb] at rx
  obtain ⟨b,q,ev,r1,r2,r3,r4⟩:=aKa rx
  refine fin b q (cs.take z) ev (by simp; omega) (fun j c hc=>?_) (fun j c hc=>?_) h.2
  ·exact r3 j c (by rw [List.getElem?_take] at hc; split at hc <;> first | exact hc | cases hc)
  ·exact r4 j c (by rw [List.getElem?_take] at hc; split at hc <;> first | exact hc | cases hc)
 ·rename_i id off hb
  rw [hb] at rx
  obtain ⟨g,r1,ev⟩:=aDs rx
  split at h
  ·rename_i cs hL
   obtain ⟨g',k1,c',ty,fr,k2,k3,k4,_,k5⟩:=hg.hp.blk _ _ hL
   obtain rfl:g=g':=Option.some.inj (r1.symm.trans k1)
   have q0:g.off+off=off:=by omega
   rw [q0] at ev
   refine fin _ _ ((cs.drop off).take z) ev (by simp; omega) (fun j c hc=>?_) (fun j c hc=>?_) h.2.2
   ·have hc':cs[off+j]?=some c:=by rw [List.getElem?_take] at hc; split at hc <;> first | exact aBp hc | cases hc
    rw [aA9 k2]
    have:=(List.getElem?_eq_some_iff.1 hc').1
    simp; omega
   ·have hc':cs[off+j]?=some c:=by rw [List.getElem?_take] at hc; split at hc <;> first | exact aBp hc | cases hc
    rw [aBo k2]; exact k5 _ _ hc'
  ·exact h.elim
 ·rename_i id i j hb
  rw [hb] at rx
  obtain ⟨g,r1,ev⟩:=aH8 rx
  split at h
  ·rename_i sz' es hL
   obtain ⟨_,p1,p2,p3⟩:=h
   obtain ⟨g',k1,e1,e2,e3,e4,e5⟩:=hg.hp.blk _ _ hL
   obtain rfl:g=g':=Option.some.inj (r1.symm.trans k1)
   obtain ⟨c',ty,fr,k2,k3,k4,k5⟩:=e5 (by omega)
   have hei:es[i]?=some (es.getD i .junk):=by simp [p1]
   have hlen:(es.getD i .junk).cells.length=sz':=aA7 (e4 _ (mem_of_getElem? hei))
   rw [e1] at ev
   have get:∀ m c,(((es.getD i .junk).cells.drop j).take z)[m]?=some c→(es[i]?.bind fun e=>e.cells[j+m]?)=some c∧m<z:=by
    intro m c hc
    rw [List.getElem?_take] at hc
    split at hc
    ·rename_i hm; rw [hei]; exact ⟨aBp hc,hm⟩
    ·cases hc
   refine fin _ _ (((es.getD i .junk).cells.drop j).take z) ev (by simp [-List.getD_eq_getElem?_getD]; omega) (fun m c hc=>?_) (fun m c hc=>?_) p3
   ·obtain ⟨q1,q2⟩:=get m c hc
    rw [aA9 k2]
    have:(i+1)*sz'≤g.cap*sz':=Nat.mul_le_mul_right _ (by omega)
    rw [Nat.add_mul] at this
    simp; omega
   ·obtain ⟨q1,q2⟩:=get m c hc
    rw [aBo k2]
    have:=k5 _ _ _ q1
    rwa [← Nat.add_assoc] at this
  ·exact h.elim
 ·exact h.elim
def putL (c:Array Value) (q:Nat):List Value→Array Value
 | []=>c
 | v::r=>putL (c.setIfInBounds q v) (q+1) r
theorem aIg:∀ (l:List Value) (c:Array Value) (q:Nat),q+l.length≤c.size →
 (putL c q l).size=c.size∧∀ i,(putL c q l).getD i undef=if q≤i∧i<q+l.length then l.getD (i-q) undef else c.getD i undef
 | [],c,q,_=>by simp [putL]; intro i h1 h2; omega
 | v::r,c,q,h=>by
   obtain ⟨h1,h2⟩:=aIg r (c.setIfInBounds q v) (q+1) (by simp at h ⊢; omega)
   simp only [putL]
   refine ⟨by rw [h1]; simp,fun i=>?_⟩
   rw [h2]
   simp only [List.length_cons] at h ⊢
   by_cases e:i=q
   ·subst e
    rw [if_neg (by omega),if_pos (by omega)]
    simp [Array.getD_eq_getD_getElem?,Array.getElem?_setIfInBounds_self_of_lt (show i<c.size by omega)]
   ·by_cases h3:q+1≤i∧i<q+1+r.length
    ·rw [if_pos h3,if_pos (by omega)]
     have e2:i-q=(i-(q+1))+1:=by omega
     rw [e2]; rfl
    ·rw [if_neg h3,if_neg (by omega)]
     have hne:q≠i:=fun h=>e h.symm
     simp [Array.getD_eq_getD_getElem?,Array.getElem?_setIfInBounds_ne hne]
theorem aQ6 (w:World) (b q:Nat) (v:Value) {c:Array Value} {ty:TypeId} {fr:Nat×Nat} (h:w.heap[b]?=some (.cells c ty fr)) :
 (w.setCell ⟨b,q,none⟩ v).heap[b]?=some (.cells (c.setIfInBounds q v) ty fr):=by
 have hlt:b<w.heap.size:=(Array.getElem?_eq_some_iff.1 h).1
 have hv:w.heap[b]=.cells c ty fr:=(Array.getElem?_eq_some_iff.1 h).2
 unfold World.setCell
 rw [Array.getElem?_eq_getElem (by simpa using hlt),Array.getElem_modify]
 simp [hv]
theorem aEm (b:Nat):∀ (vs:List Value) (q:Nat) (w:World) {c:Array Value} {ty:TypeId} {fr:Nat×Nat},w.heap[b]?=some (.cells c ty fr) →
 (w.setCells b q vs).heap[b]?=some (.cells (putL c q vs) ty fr)∧(∀ x,x≠b→(w.setCells b q vs).heap[x]?=w.heap[x]?)∧(w.setCells b q vs).heap.size=w.heap.size ∧
  (w.setCells b q vs).os=w.os∧(w.setCells b q vs).tape=w.tape∧(w.setCells b q vs).output=w.output
 | [],q,w,c,ty,fr,h=>⟨h,fun _ _=>rfl,rfl,rfl,rfl,rfl⟩
 | v::r,q,w,c,ty,fr,h=>by
   obtain ⟨h1,h2,h3,h4,h5,h6⟩:=aEm b r (q+1) (w.setCell ⟨b,q,none⟩ v) (aQ6 w b q v h)
   refine ⟨h1,fun x hx=>(h2 x hx).trans (Below.heap_setCell w _ _ _ hx),h3.trans (by simp [World.setCell]),h4,h5,h6⟩
theorem aJw {t:TypeId} {z b q:Nat} {v:Value} {c:Array Value} {ty:TypeId} {fr:Nat×Nat} (hz:szOf P t=some z) (hv:v.cells.size=z) (h1:∀ u∈v.cells.toList,u.oneCell'=true)
 (h:w.heap[b]?=some (.cells c ty fr)) (hq:q+z≤c.size) (hf:∀ i,i<z→¬ (fr.1≤q+i∧q+i<fr.2)) :
 (storeVar t ⟨b,q,none⟩ v).run P w=.ok () (w.setCells b q v.cells.toList):=by
 have:=run_storeCells_cells (P:=P) b q v.cells.toList 0 w (fun j hj=>by rw [aA9 h]; simp at hj ⊢; omega) (fun j hj=>by
  have h3:=hf j (by simp at hj; omega)
  simp only [World.frozen?,h,Nat.add_zero]
  simpa [Nat.add_assoc] using h3) h1
 simp only [storeVar,Sem.run_bind,aEo hz,Result.andThen_ok,hv,ne_eq,not_true_eq_false,if_false,Nat.add_zero] at this ⊢
 simpa using this
theorem Good.turnBlk (hg:Good P D n s G a w) {id:Nat} {b b':Blk} {g:GB} {w':World} (hL:s.L id=some b) (hG:G id=some g) (hocc:∀ x,Occ g b' x↔Occ g b x)
 (hb:∀ x,Occ g b x→x=g.blk) (hother:∀ x,x≠g.blk→w'.heap[x]?=w.heap[x]?) (hne:Occ g b g.blk) (hsz:w'.heap.size=w.heap.size) (hos:w'.os=w.os) (htape:w'.tape=w.tape) (hout:w'.output=w.output)
 (hok:∀ G' D',(∀ x v,Rep G (Dp D s.L G) w x v→Rep G' D' w' x v)→BlkOk G' D' w' g b') :
 Good P D n (s.put id b') G a w'∧Nxt s.L G w (s.put id b').L G w':=by
 have hown:∀ x,Own (s.put id b').L G x→Own s.L G x:=by
  rintro x ⟨i,bi,gi,h1,h2,h3⟩
  by_cases e:i=id
  ·subst e
   simp only [St.put,aAf,Option.some.injEq] at h1
   subst h1
   obtain rfl:gi=g:=Option.some.inj (h2.symm.trans hG)
   exact ⟨i,b,gi,hL,h2,(hocc x).1 h3⟩
  ·simp only [St.put,aAe _ _ _ _ e] at h1
   exact ⟨i,bi,gi,h1,h2,h3⟩
 have hx:Nxt s.L G w (s.put id b').L G w':=by
  refine ⟨G.le_refl,⟨by omega,fun x hx hn=>hother x fun e=>hn ?_⟩,fun x _=>hown x,hos,htape,hout⟩
  subst e
  exact ⟨id,b,g,hL,hG,hne⟩
 refine ⟨hg.later hx ?_,hx⟩
 refine hg.hp.turn (·=id) hx hg.hp.fin (fun i bi hl hne=>?_) (fun i bi gi x hl hne hgi ho=>?_) (fun _ _ _ _ _ h=>h) (fun i j hi hj=>hi.trans hj.symm) (fun i bi hl hi=>?_)
 ·simpa only [St.put,aAe _ _ _ _ hne] using hl
 ·refine hother x fun e=>?_
  subst e
  simp only [St.put,aAe _ _ _ _ hne] at hl
  exact hg.hp.apart i id bi b gi g _ hl hL hgi hG hne ho ‹_›
 ·subst hi
  simp only [St.put,aAf,Option.some.injEq] at hl
  subst hl
  refine ⟨g,hG,hok _ _ fun x v hr=>hx.rep hr,fun x ho=>?_⟩
  have ho':=(hocc x).1 ho
  have:=hg.hp.away x ⟨i,b,g,hL,hG,ho'⟩
  refine ⟨by omega,this.2,fun i2 b2 g2 hl2 hn2 hg2 ho2=>?_⟩
  simp only [St.put,aAe _ _ _ _ hn2] at hl2
  exact hg.hp.apart i2 i b2 b g2 g x hl2 hL hg2 hG hn2 ho2 ho'
theorem aHq {x:V} {k:Nat} (h:x.ncells=some k):∀ c,c∈x.cells→c.one=true:=by
 unfold V.ncells at h
 split at h
 ·split at h
  ·rename_i hall; intro c hc; exact List.all_eq_true.1 hall c hc
  ·simp at h
 ·split at h
  ·rename_i hx h1
   intro c hc
   cases x <;> simp [V.one] at h1 <;> simp [V.cells] at hc <;> subst hc <;> simp [V.one,h1]
  ·simp at h
theorem bDm {e:V} {cs:List V} {k:Nat} (he:e.ncells=some k) (hl:cs.length=k) (ho:∀ c,c∈cs→c.one=true):(e.recell cs).ncells=some k∧(e.recell cs).cells=cs:=by
 unfold V.ncells at he
 split at he
 ·split at he
  ·rename_i hall
   simp only [V.recell,V.ncells,V.cells]
   rw [if_pos (List.all_eq_true.2 ho),hl]
   exact ⟨rfl,trivial⟩
  ·simp at he
 ·rename_i hx
  split at he
  ·rename_i h1
   simp only [Option.some.injEq] at he
   subst he
   match cs,hl with
   | [c],_ =>
     have hc:=ho c (by simp)
     have er:e.recell [c]=c:=by cases e <;> first | rfl | exact absurd rfl (hx _)
     rw [er]
     refine ⟨?_,?_⟩
     ·unfold V.ncells
      split
      ·simp [V.one] at hc
      ·simp [hc]
     ·cases c <;> first | rfl | simp [V.one] at hc
  ·simp at he
theorem bD8 {zero:List V} {off:Nat} {cs:List V} {c:V} (h:c∈aB1 zero off cs):c∈zero∨c∈cs:=by
 simp only [aB1,List.mem_append] at h
 rcases h with (h | h) | h
 ·exact .inl (List.mem_of_mem_take h)
 ·exact .inr h
 ·exact .inl (List.mem_of_mem_drop h)
theorem bBm {t:TypeId} {z:Nat} {x y:Operand} {x' y':Src} (hx:opd n x=some x') (hy:opd n y=some y') (hz:szOf P t=some z) (hdst:o.dst=none) (ho:o.op=.store t x y):aBe P D n o (.store z x' y'):=by
 intro s G a w K next Q h hg hn hfree
 have rx:=aAi hg hx
 have ry:=aAi hg hy
 have run:∀ b q w',a.eval x=.pointer (some ⟨b,q,none⟩)→(storeVar t ⟨b,q,none⟩ (a.eval y)).run P w=.ok () w'→(execOp a.eval o).run P w=.ok .skip w':=by
  intro b q w' hv hr
  simp only [execOp,ho,hv,Instr.storeAt,Instr.sureAddr,Sem.run_bind,Sem.run_pure,Result.andThen_ok,hr]
 simp only [aAc] at h
 split at h
 ·rename_i id off hb
  rw [hb] at rx
  obtain ⟨g,r1,ev⟩:=aDs rx
  split at h
  ·rename_i ty0 cs hL
   obtain ⟨p1,p2,p3⟩:=h
   obtain ⟨g',k1,c',ty,fr,k2,k3,k4,k5,k6⟩:=hg.hp.blk _ _ hL
   obtain rfl:g=g':=Option.some.inj (r1.symm.trans k1)
   have q0:g.off+off=off:=by omega
   rw [q0] at ev
   obtain ⟨c1,c2,c3⟩:=aGu ry p1
   have c4:(a.eval y).cells.size=z:=by rw [← c1.1]; exact c2
   have hrun:=aJw (P:=P) hz c4 c3 k2 (q:=off) (by omega) (fun i hi=>by have:=k5 (off+i) (by omega); simpa using this)
   obtain ⟨s1,s2,s3,s4,s5,s6⟩:=aEm g.blk (a.eval y).cells.toList off w k2
   have fit:off+(s.ev y').cells.length≤cs.length:=by omega
   have hl1:(a.eval y).cells.toList.length=z:=by simpa using c4
   obtain ⟨u1,u2⟩:=aIg (a.eval y).cells.toList c' off (by omega)
   obtain ⟨g1,g2⟩:=hg.turnBlk (b':=.box ty0 (aB1 cs off (s.ev y').cells)) hL r1 (fun x=>Iff.rfl) (fun x h=>h) s2 rfl s3 s4 s5 s6 (fun G' D' hm=>by
    refine ⟨_,ty,fr,s1,⟨by rw [u1,aE9 fit,k3.1],k3.2⟩,k4,by rw [u1]; exact k5,fun i x hi=>?_⟩
    rw [u2,hl1]
    rw [aK3 fit,c2] at hi
    split at hi
    ·rename_i hh; rw [if_pos hh]
     have:=c1.2 _ _ hi
     exact hm _ _ (by simpa [Array.getD_eq_getD_getElem?,List.getD] using this)
    ·rename_i hh; rw [if_neg hh]; exact hm _ _ (k6 _ _ hi))
   rw [run _ _ _ ev hrun]
   simp only [Oper.upon,hdst,Act.put]
   exact hn _ _ _ _ p3 g1 g2 (New.same rfl)
  ·exact h.elim
 ·rename_i id i j hb
  rw [hb] at rx
  obtain ⟨g,r1,ev⟩:=aH8 rx
  split at h
  ·rename_i ty0 sz' es hL
   obtain ⟨p0,p1,p2,p3⟩:=h
   obtain ⟨g',k1,e1,e2,e3,e4,e5⟩:=hg.hp.blk _ _ hL
   obtain rfl:g=g':=Option.some.inj (r1.symm.trans k1)
   have hcap:0<g.cap:=by omega
   obtain ⟨c',ty,fr,k2,k3,k4,k5⟩:=e5 hcap
   have hei:es[i]?=some (es.getD i .junk):=by simp [p1]
   have hne:=e4 _ (mem_of_getElem? hei)
   have hlen:(es.getD i .junk).cells.length=sz':=aA7 hne
   rw [e1] at ev
   have hmul:(i+1)*sz'≤g.cap*sz':=Nat.mul_le_mul_right _ (by omega)
   rw [Nat.add_mul] at hmul
   obtain ⟨c1,c2,c3⟩:=aGu ry p0
   have c4:(a.eval y).cells.size=z:=by rw [← c1.1]; exact c2
   have hrun:=aJw (P:=P) hz c4 c3 k2 (q:=g.off+i*sz'+j) (by omega) (fun m hm=>by have:=k4 (i*sz'+j+m) (by omega); simpa [Nat.add_assoc] using this)
   obtain ⟨s1,s2,s3,s4,s5,s6⟩:=aEm g.blk (a.eval y).cells.toList (g.off+i*sz'+j) w k2
   have fit:j+(s.ev y').cells.length≤(es.getD i .junk).cells.length:=by omega
   have hl1:(a.eval y).cells.toList.length=z:=by simpa using c4
   obtain ⟨u1,u2⟩:=aIg (a.eval y).cells.toList c' (g.off+i*sz'+j) (by omega)
   obtain ⟨v1,v2⟩:=bDm (cs:=aB1 (es.getD i .junk).cells j (s.ev y').cells) hne (by rw [aE9 fit,hlen]) (fun c hc=>(bD8 hc).elim (aHq hne c) (aHq p0 c))
   obtain ⟨g1,g2⟩:=hg.turnBlk (b':=.vec ty0 sz' (es.set i ((es.getD i .junk).recell (aB1 (es.getD i .junk).cells j (s.ev y').cells)))) hL r1 (fun x=>Iff.rfl) (fun x h=>h.2) s2 ⟨hcap,rfl⟩ s3 s4 s5 s6 (fun G' D' hm=>by
    refine ⟨e1,by simpa using e2,e3,fun e he=>?_,fun _=>⟨_,ty,fr,s1,by rw [u1]; exact k3,by rw [u1]; exact k4,fun i' j' x hi=>?_⟩⟩
    ·rcases List.mem_or_eq_of_mem_set he with he | rfl
     ·exact e4 e he
     ·exact v1
    ·rw [u2,hl1]
     by_cases hii:i'=i
     ·subst hii
      rw [List.getElem?_set_self (by simpa using p1),Option.bind_some,v2,aK3 fit,c2] at hi
      split at hi
      ·rename_i hh
       rw [if_pos (by omega)]
       have:=c1.2 _ _ hi
       have e:g.off+i'*sz'+j'-(g.off+i'*sz'+j)=j'-j:=by omega
       rw [e]
       exact hm _ _ (by simpa [Array.getD_eq_getD_getElem?,List.getD] using this)
      ·rename_i hh
       rw [if_neg (by omega)]
       exact hm _ _ (k5 i' j' x (by rw [hei]; exact hi))
     ·rw [List.getElem?_set_ne (fun h=>hii h.symm)] at hi
      have hj':j'<sz':=by
       cases he:es[i']? with
       | none=>rw [he] at hi; simp at hi
       | some e =>
         rw [he,Option.bind_some] at hi
         have:=(List.getElem?_eq_some_iff.1 hi).1
         rw [aA7 (e4 e (mem_of_getElem? he))] at this
         exact this
      rw [if_neg]
      ·exact hm _ _ (k5 i' j' x hi)
      ·rcases Nat.lt_or_gt_of_ne hii with hlt | hgt
       ·have:=Nat.mul_le_mul_right sz' (show i'+1≤i by omega)
        rw [Nat.add_mul] at this; omega
       ·have:=Nat.mul_le_mul_right sz' (show i+1≤i' by omega)
        rw [Nat.add_mul] at this; omega)
   rw [run _ _ _ ev hrun]
   simp only [Oper.upon,hdst,Act.put]
   exact hn _ _ _ _ p3 g1 g2 (New.same rfl)
  ·exact h.elim
 ·exact h.elim
end
end Go.Ab
namespace Go.Ab
open Go.RowKit
section
variable {P:Program} {D:Nat→Prop} {n:Nat} {hint:Nat→Nat} {s:St} {G:Ghost} {a:Act} {w:World} {o:Oper} {K:St→Prop} {next:Act→World→Prop} {Q:Exit→Act→World→Prop} {m:Option Nat}
theorem aBs (w:World) (ob:Obj):Below w.heap.size w (w.alloc ob):=⟨rfl,rfl,rfl,by show w.heap.size≤(w.heap.push ob).size; simp,fun k hk=>heap_alloc_old w ob hk⟩
theorem aA0 (w:World) (ob:Obj):(w.alloc ob).heap[w.heap.size]?=some ob:=heap_alloc_new w ob
theorem aBq (w:World) (ob:Obj):(w.alloc ob).heap.size=w.heap.size+1:=by show (w.heap.push ob).size=_; simp
theorem aUx {G:Ghost} {id:Nat} (h:G id=none) (g:GB):G.le (upd G id (some g)):=fun i x hx=>by
 exact ⟨x.aux,by rw [aAe _ _ _ _ (fun e=>by subst e; rw [h] at hx; cases hx)]; exact hx⟩
theorem aFj {s s':St} {id d:Nat} (gb:GB) (hn:s'.nx=s.nx) (hid:id=s.nx+d):New (some d) s G s' (upd G id (some gb)):=by
 refine ⟨hn,fun i hi=>?_⟩
 by_cases e:i=id
 ·subst e; exact .inr ⟨d,rfl,hid⟩
 ·rw [aAe _ _ _ _ e] at hi; exact .inl hi
theorem Good.newBlk (hg:Good P D n s G a w) {w':World} (hb:Below w.heap.size w w') {id:Nat} (hid:G id=none) (hU:id<s.nx+n) (b:Blk) (gb:GB)
 (hocc:∀ x,Occ gb b x→w.heap.size≤x∧x<w'.heap.size)
 (hok:∀ G' D',(∀ x v,Rep G (Dp D s.L G) w x v→Rep G' D' w' x v)→BlkOk G' D' w' gb b) :
 Good P D n (s.add id b) (upd G id (some gb)) a w'∧Nxt s.L G w (s.add id b).L (upd G id (some gb)) w':=by
 have hLid:s.L id=none:=by
  cases h:s.L id with
  | none=>rfl
  | some b' =>
    obtain ⟨g,h1,_⟩:=hg.hp.blk id b' h
    rw [hid] at h1; cases h1
 have hx:Nxt s.L G w (s.add id b).L (upd G id (some gb)) w':=by
  refine ⟨aUx hid gb,⟨hb.size,fun x h _=>hb.block x h⟩,?_,hb.os,hb.tape,hb.output⟩
  rintro x hx ⟨i,bi,gi,h1,h2,h3⟩
  by_cases e:i=id
  ·subst e
   simp only [St.add,aAf,Option.some.injEq] at h1 h2
   subst h1 h2
   have:=hocc x h3
   omega
  ·simp only [St.add,aAe _ _ _ _ e] at h1 h2
   exact ⟨i,bi,gi,h1,h2,h3⟩
 refine ⟨hg.later hx ?_,hx⟩
 refine hg.hp.turn (·=id) hx (fun i hi=>(aAe _ _ _ _ (show i≠id from fun e=>by subst e; exact absurd hi (Nat.not_le.2 hU))).trans (hg.hp.fin i hi)) (fun i bi hl hne=>?_) (fun i bi gi x hl hne hgi ho=>?_) (fun i bi gi _ hne hgi=>by rw [aAe _ _ _ _ hne]; exact hgi) (fun i j hi hj=>hi.trans hj.symm) (fun i bi hl hi=>?_)
 ·simpa only [St.add,aAe _ _ _ _ hne] using hl
 ·simp only [St.add,aAe _ _ _ _ hne] at hl
  exact hb.block x (hg.hp.away x ⟨i,bi,gi,hl,hgi,ho⟩).1
 ·subst hi
  simp only [St.add,aAf,Option.some.injEq] at hl
  subst hl
  refine ⟨gb,aAf _ _ _,hok _ _ fun x v hr=>hx.rep hr,fun x ho=>?_⟩
  have h1:=hocc x ho
  refine ⟨h1.2,fun hd=>?_,fun i2 b2 g2 hl2 hn2 hg2 ho2=>?_⟩
  ·have:=hg.hp.dlt x hd; omega
  ·simp only [St.add,aAe _ _ _ _ hn2] at hl2
   have:=(hg.hp.away x ⟨i2,b2,g2,hl2,hg2,ho2⟩).1
   omega
theorem bLv {d:Nat} (hd:d<n) (hdst:o.dst=some d) {e:TypeId} {z:List V} (hz:aFq P e=some z) (ho:o.op=.alloc e):aBe P D n o (.alloc d e z):=by
 intro s G a w K next Q h hg hn hfree
 have hG:=hfree d rfl
 obtain ⟨zv,_,hrun,hrep⟩:=aEq hz G (Dp D s.L G) w
 simp only [aAc] at h
 have hK:=h
 have run:(execOp a.eval o).run P w=.ok (.value (.pointer (some ⟨w.heap.size,0,none⟩))) (w.alloc (.cells zv.cells e)):=by
  simp only [execOp,ho,aDl,Instr.alloc,Sem.run_bind,hrun,Result.andThen_ok]
  simp [newVar,newRow]
 obtain ⟨g1,g2⟩:=hg.newBlk (aBs w (.cells zv.cells e)) hG (by omega) (.box e z) ⟨w.heap.size,0,0,0,0⟩ (fun x hx=>(by simp only [Occ] at hx; subst hx; rw [aBq]; omega)) (fun G' D' hm =>
  ⟨_,_,_,aA0 _ _,⟨hrep.1.symm,rfl⟩,rfl,fun i _=>(by simp),fun i x hx=>hm _ _ (hrep.2 i x hx)⟩)
 rw [run]
 simp only [Oper.upon,hdst]
 have g3:=g1.put (d:=some d) (x:=.ptr (s.nx+d) 0) (v:=.pointer (some ⟨w.heap.size,0,none⟩)) (by simpa [aA4] using hd) (.ptr (s.nx+d) 0 _ (aAf _ _ _))
 exact hn _ _ _ _ hK g3 g2 (aFj _ rfl rfl)
theorem bRn {d:Nat} (hd:d<n) (hdst:o.dst=some d) {e:TypeId} {x:Operand} {x':Src} (hx:opd n x=some x') (ho:o.op=.box e x):aBe P D n o (.box d e x'):=by
 intro s G a w K next Q h hg hn hfree
 have hG:=hfree d rfl
 simp only [aAc] at h
 obtain ⟨h1,h2⟩:=h
 obtain ⟨k,hk⟩:=Option.isSome_iff_exists.1 h1
 obtain ⟨c1,c2,c3⟩:=aGu (aAi hg hx) hk
 have hK:=h2
 have run:(execOp a.eval o).run P w=.ok (.value (.pointer (some ⟨w.heap.size,0,none⟩))) (w.alloc (.cells (a.eval x).cells e)):=by
  simp only [execOp,ho,aDl,Instr.box]
  simp [newVar,newRow]
 obtain ⟨g1,g2⟩:=hg.newBlk (aBs w (.cells (a.eval x).cells e)) hG (by omega) (.box e (s.ev x').cells) ⟨w.heap.size,0,0,0,0⟩ (fun x hx=>(by simp only [Occ] at hx; subst hx; rw [aBq]; omega)) (fun G' D' hm =>
  ⟨_,_,_,aA0 _ _,⟨c1.1.symm,rfl⟩,rfl,fun i _=>(by simp),fun i x hx=>hm _ _ (c1.2 i x hx)⟩)
 rw [run]
 simp only [Oper.upon,hdst]
 have g3:=g1.put (d:=some d) (x:=.ptr (s.nx+d) 0) (v:=.pointer (some ⟨w.heap.size,0,none⟩)) (by simpa [aA4] using hd) (.ptr (s.nx+d) 0 _ (aAf _ _ _))
 exact hn _ _ _ _ hK g3 g2 (aFj _ rfl rfl)
theorem bPy (hg:Good P D n s G a w) (z:Nat):∀ (xs:List Operand) (qs:List Src) (k:Nat) (cells:Array Value),opds n xs=some qs→(∀ p∈qs,(s.ev p).ncells=some z)→(k+xs.length)*z≤cells.size →
 ∃ cells',Instr.fill (fun i=>some (i*z,z)) cells ((xs.zipIdx k).map fun p=>(p.2,a.eval p.1))=some cells'∧cells'.size=cells.size∧(∀ m,m<k*z→cells'.getD m undef=cells.getD m undef)∧qs.length=xs.length ∧
   ∀ i j c,(((qs.map s.ev)[i]?).bind fun e=>e.cells[j]?)=some c→Rep G (Dp D s.L G) w c (cells'.getD ((k+i)*z+j) undef)
 | [],qs,k,cells,h,_,_=>by
   simp [opds] at h; subst h
   exact ⟨cells,rfl,rfl,fun _ _=>rfl,rfl,fun i j c hc=>by simp at hc⟩
 | x::r,qs,k,cells,h,hp,hf=>by
   simp only [opds] at h
   split at h
   ·rename_i y rest h1 h2
    simp only [Option.some.injEq] at h
    subst h
    obtain ⟨c1,c2,c3⟩:=aGu (aAi hg h1) (hp y (by simp))
    have c4:(a.eval x).cells.size=z:=by rw [← c1.1]; exact c2
    have hf':(k+1+r.length)*z≤cells.size:=by simp only [List.length_cons] at hf; rw [show k+1+r.length=k+(r.length+1) by omega]; exact hf
    have hkz:k*z+z≤cells.size:=by
     have:(k+1)*z≤(k+1+r.length)*z:=Nat.mul_le_mul_right _ (by omega)
     rw [Nat.add_mul,Nat.one_mul] at this; omega
    obtain ⟨p1,p2⟩:=aK5 (k*z) (a.eval x).cells.toList 0 cells (by simp [c4]; omega)
    rw [← Array.toList_zipIdx,Array.foldl_toList] at p1 p2
    obtain ⟨cells',e1,e2,e3,e4,e5⟩:=bPy hg z r rest (k+1) ((a.eval x).cells.zipIdx.foldl (fun cs (x:Value×Nat)=>cs.setIfInBounds (k*z+x.2) x.1) cells) h2 (fun p hm=>hp p (by simp [hm])) (by rw [p1]; exact hf')
    have c5:¬ (k*z+z>cells.size):=by omega
    refine ⟨cells',?_,by rw [e2,p1],fun m hm=>?_,by simp [e4],fun i j c hc=>?_⟩
    ·simp only [List.zipIdx_cons,List.map_cons,Instr.fill,c4,ne_eq,not_true_eq_false,decide_false,Bool.false_or,decide_eq_true_eq,c5,if_false]
     exact e1
    ·rw [e3 m (by rw [Nat.add_mul]; omega),p2,if_neg (by omega)]
    ·cases i with
     | zero =>
       simp only [List.map_cons,List.getElem?_cons_zero,Option.bind_some] at hc
       have hj:j<z:=by rw [← c2]; exact (List.getElem?_eq_some_iff.1 hc).1
       rw [Nat.add_zero,e3 _ (by rw [Nat.add_mul]; omega),p2,if_pos (by simp [c4]; omega)]
       have:=c1.2 _ _ hc
       simpa [Array.getD_eq_getD_getElem?,List.getD] using this
     | succ i =>
       have:=e5 i j c (by simpa using hc)
       rwa [show k+1+i=k+(i+1) by omega] at this
   ·simp at h
theorem bIj:∀ (l:List (Nat×Operand)) (k:Nat),l.map (·.1)=(List.range l.length).map (k+·)→l=((l.map (·.2)).zipIdx k).map fun p=>(p.2,p.1)
 | [],_,_=>rfl
 | (i,x)::r,k,h=>by
   simp only [List.length_cons,List.range_succ_eq_map,List.map_cons,List.map_map,List.cons.injEq] at h
   obtain ⟨h1,h2⟩:=h
   simp only [Nat.add_zero] at h1
   subst h1
   simp only [List.map_cons,List.zipIdx_cons]
   rw [← bIj r (i+1) (by rw [h2]; apply List.map_congr_left; intro x _; simp; omega)]
theorem bH2 (hg:Good P D n s G a w) {t e:TypeId} {len z:Nat} {parts:Array (Nat×Operand)} {qs:List Src} (hu:P.underlying t=some (.slice e)) (hz:szOf P e=some z) (hqs:opds n (parts.toList.map (·.2))=some qs)
 (hi:parts.toList.map (·.1)=List.range len) (hs:len*z≤2^24) (h0:0<z) (hzero:∃ zs,aFq P e=some zs∧zs.length=z) (hp:∀ p∈qs,(s.ev p).ncells=some z) (ho:o.op=.buildSlice t len parts) :
 ∃ cells,(execOp a.eval o).run P w=.ok (.value (.slice (some ⟨w.heap.size,0,none⟩) len len)) (w.alloc (.cells cells e))∧cells.size=len*z∧qs.length=len ∧
   ∀ i j c,(((qs.map s.ev)[i]?).bind fun e=>e.cells[j]?)=some c→Rep G (Dp D s.L G) w c (cells.getD (i*z+j) undef):=by
 obtain ⟨zs,hzs,hzl⟩:=hzero
 obtain ⟨zv,_,hzrun,hzrep⟩:=aEq hzs G (Dp D s.L G) w
 have hzz:zv.cells.size=z:=by rw [← hzrep.1,hzl]
 have hlen:parts.toList.length=len:=by have:=congrArg List.length hi; simpa using this
 have hparts:(parts.map fun (x:Nat×Operand)=>match x with | (i,x)=>(i,a.eval x)).toList=((parts.toList.map (·.2)).zipIdx 0).map fun p=>(p.2,a.eval p.1):=by
  rw [Array.toList_map]
  have:=bIj parts.toList 0 (by rw [hlen,hi]; simp)
  conv=>lhs; rw [this]
  rw [List.map_map]; rfl
 have hsz:(P.info? e).map (·.size)=some z:=hz
 generalize hc0:(if len*z=0 then (#[]:Array Value) else (Array.range (len*z)).map (zv.cells[· % zv.cells.size]!))=cells0
 have hs0:cells0.size=len*z:=by
  rw [← hc0]; split
  ·rename_i h; simp [h]
  ·simp
 obtain ⟨cells,e1,e2,e3,e4,e5⟩:=bPy hg z (parts.toList.map (·.2)) qs 0 cells0 hqs hp (by rw [hs0]; simp [← hlen])
 refine ⟨cells,?_,by rw [e2,hs0],by rw [e4]; simpa using hlen,fun i j c hc=>by simpa using e5 i j c hc⟩
 simp only [execOp,ho,aDl,Instr.buildSlice,Sem.run_bind,run_underlying hu,Result.andThen_ok,aEo hz]
 rw [if_neg (by omega)]
 by_cases hl0:len*z=0
 ·have hc1:cells0=#[]:=by rw [← hc0,if_pos hl0]
  rw [hc1] at e1
  simp only [hl0,if_true,Sem.run_bind,Sem.run_pure,Result.andThen_ok]
  have e6:(Array.map (fun x=>(#[]:Array Value)[x % (#[]:Array Value).size]!) (Array.range 0))=#[]:=by simp
  rw [e6,hparts,e1]
  simp [newRow]
 ·have hc1:cells0=(Array.range (len*z)).map (zv.cells[· % zv.cells.size]!):=by rw [← hc0,if_neg hl0]
  rw [hc1] at e1
  simp only [hl0,if_false,Sem.run_bind,hzrun,Sem.run_pure,Result.andThen_ok]
  rw [hparts,e1]
  simp [newRow]
end
end Go.Ab
namespace Go.Ab
open Go.RowKit
section
variable {P:Program} {D:Nat→Prop} {n:Nat} {hint:Nat→Nat} {s:St} {G:Ghost} {a:Act} {w:World} {o:Oper} {K:St→Prop} {next:Act→World→Prop} {Q:Exit→Act→World→Prop} {m:Option Nat}
theorem Good.grow (hg:Good P D n s G a w) {w':World} (hb:Below w.heap.size w w'):Good P D n s G a w'∧Nxt s.L G w s.L G w' :=
 ⟨⟨hg.size,hg.defers,fun i=>(Nxt.grow hb).rep (hg.env i),hg.hp.grow hb⟩,Nxt.grow hb⟩
theorem bDi (hg:Good P D n s G a w) (hd:aA4 n o.dst=true) (hn:∀ s' G' a' w',K s'→Good P D n s' G' a' w'→Nxt s.L G w s'.L G' w'→New m s G s' G'→next a' w')
 {x:V} {v:Value} {w':World} (hb:Below w.heap.size w w') (hr:(execOp a.eval o).run P w=.ok (.value v) w') (hv:Rep G (Dp D s.L G) w' x v) (hK:K (s.setO o.dst x)) :
 o.upon P a next Q ((execOp a.eval o).run P w):=by
 obtain ⟨g1,g2⟩:=hg.grow hb
 rw [hr]
 exact hn _ _ _ _ hK (g1.put hd hv) (by rw [aDo]; exact g2) (New.same (aCi _ _ _))
theorem bXd (hd:aA4 n o.dst=true) {t e:TypeId} {len z:Nat} {parts:Array (Nat×Operand)} {qs:List Src} (hu:P.underlying t=some (.slice e)) (hz:szOf P e=some z) (hqs:opds n (parts.toList.map (·.2))=some qs)
 (hi:parts.toList.map (·.1)=List.range len) (hs:len*z≤2^24) (h0:0<z) (hzero:∃ zs,aFq P e=some zs∧zs.length=z) (ho:o.op=.buildSlice t len parts):aBe P D n o (.mkl o.dst z qs):=by
 intro s G a w K next Q h hg hn hfree
 simp only [aAc] at h
 obtain ⟨cells,hrun,hc,hl,hr⟩:=bH2 hg hu hz hqs hi hs h0 hzero h.1 ho
 have hb:=aBs w (.cells cells e)
 have hlen:(qs.map s.ev).length=len:=by simpa using hl
 refine bDi hg hd hn hb hrun ?_ h.2
 have hx:=Nxt.grow (L:=s.L) (G:=G) hb
 have key:Rep G (Dp D s.L G) (w.alloc (.cells cells e)) (.lst z (qs.map s.ev)) (.slice (some ⟨w.heap.size,0,none⟩) (qs.map s.ev).length len):=by
  have hnd:¬ Dp D s.L G w.heap.size:=fun hd=>by
   rcases hd with hd | hd
   ·have:=hg.hp.dlt _ hd; omega
   ·have:=(hg.hp.away _ hd).1; omega
  refine .lst _ _ _ _ w.heap.size 0 (by omega) ?_ (fun _=>⟨rfl,by rw [aBq]; omega,hnd⟩) (fun e he=>?_) (fun i j c hc'=>?_) (fun i j c hc'=>?_)
  ·have:len*1≤len*z:=Nat.mul_le_mul_left _ h0
   omega
  ·obtain ⟨p,hp,rfl⟩:=List.mem_map.1 he
   exact h.1 p hp
  ·rw [aA9 (aA0 w _)]
   have hi':i<len:=by
    cases he:(qs.map s.ev)[i]? with
    | none=>rw [he] at hc'; simp at hc'
    | some e'=>rw [← hlen]; exact (List.getElem?_eq_some_iff.1 he).1
   have hj:j<z:=by
    cases he:(qs.map s.ev)[i]? with
    | none=>rw [he] at hc'; simp at hc'
    | some e' =>
      rw [he,Option.bind_some] at hc'
      obtain ⟨p,hp,rfl⟩:=List.mem_map.1 (mem_of_getElem? he)
      rw [← aA7 (h.1 p hp)]
      exact (List.getElem?_eq_some_iff.1 hc').1
   have:(i+1)*z≤len*z:=Nat.mul_le_mul_right _ (by omega)
   rw [Nat.add_mul] at this
   simp; omega
  ·rw [aBo (aA0 w _),Nat.zero_add]
   exact hx.rep (hr i j c hc')
 rwa [hlen] at key
theorem bS7 {d:Nat} (hd:d<n) (hdst:o.dst=some d) {t e:TypeId} {len z:Nat} {parts:Array (Nat×Operand)} {qs:List Src} (hu:P.underlying t=some (.slice e)) (hz:szOf P e=some z) (hqs:opds n (parts.toList.map (·.2))=some qs)
 (hi:parts.toList.map (·.1)=List.range len) (hs:len*z≤2^24) (h0:0<z) (hzero:∃ zs,aFq P e=some zs∧zs.length=z) (ho:o.op=.buildSlice t len parts):aBe P D n o (.mkv d e z qs):=by
 intro s G a w K next Q h hg hn hfree
 have hG:=hfree d rfl
 simp only [aAc] at h
 obtain ⟨h1,h2⟩:=h
 obtain ⟨cells,hrun,hc,hl,hr⟩:=bH2 hg hu hz hqs hi hs h0 hzero h1 ho
 have hb:=aBs w (.cells cells e)
 have hlen:(qs.map s.ev).length=len:=by simpa using hl
 have hle:len*1≤len*z:=Nat.mul_le_mul_left _ h0
 have hK:=h2
 obtain ⟨g1,g2⟩:=hg.newBlk hb hG (by omega) (.vec e z (qs.map s.ev)) ⟨w.heap.size,0,len,z,0⟩ (fun x hx=>by simp only [Occ] at hx; rw [hx.2,aBq]; omega) (fun G' D' hm=>by
  refine ⟨rfl,by simp only [hlen]; exact Nat.le_refl _,by show len<2^63; omega,fun e he=>?_,fun _=>⟨_,_,_,aA0 _ _,⟨by show 0+len*z≤cells.size; omega,rfl⟩,⟨fun i _=>(by simp),fun _=>(by simp)⟩,fun i j x hx=>?_⟩⟩
  ·obtain ⟨p,hp,rfl⟩:=List.mem_map.1 he
   exact h1 p hp
  ·have:=hm _ _ (hr i j x hx)
   simpa using this)
 rw [hrun]
 simp only [Oper.upon,hdst]
 have g3:=g1.put (d:=some d) (x:=.own (s.nx+d) z 0 qs.length) (v:=.slice (some ⟨w.heap.size,0,none⟩) len len) (by simpa [aA4] using hd) (by
  rw [hl]
  exact .own _ _ _ _ ⟨w.heap.size,0,len,z,0⟩ _ _ (aAf _ _ _) rfl (Nat.le_refl _) rfl (by show len<2^63; omega) (fun _=>by simp))
 exact hn _ _ _ _ hK g3 g2 (aFj _ rfl rfl)
theorem bXt {d:Nat} (hd:d<n) (hdst:o.dst=some d) {t e:TypeId} {i:TypeInfo} {len cap:Operand} {c:Src} (hu:P.underlying t=some (.slice e)) (hi:P.info? e=some i) (hz:i.zero.isSome=true) (hb:i.bytes≤65536)
 (hl:opd n len=some (.k (.int .i64 0))) (hc:opd n cap=some c) (ho:o.op=.makeSlice t len cap):aBe P D n o (.mk0 d e i.size c):=by
 intro s G a w K next Q h hg hn hfree
 have hG:=hfree d rfl
 obtain ⟨zv,hzv⟩:=Option.isSome_iff_exists.1 hz
 simp only [aAc] at h
 have rc:=aAi hg hc
 have rl:=aAi hg hl
 split at h
 ·rename_i m hm
  obtain ⟨h1,h2,hK⟩:=h
  rw [hm] at rc
  have ri:∀ {k:IntKind} {x:Int} {v:Value},Rep G (Dp D s.L G) w (.int k x) v→v=.int k x:=fun h=>by cases h; rfl
  have e1:a.eval cap=.int .i64 m:=ri rc
  have e2:a.eval len=.int .i64 0:=by
   simp only [St.ev] at rl
   exact ri rl
  obtain ⟨N,rfl⟩:∃ N:Nat,m=N:=⟨m.toNat,by omega⟩
  have hN:N≤1073741824:=by omega
  have hbytes:(i.bytes:Int)*(N:Int)≤281474976710656:=by
   have:i.bytes*N≤65536*1073741824:=Nat.mul_le_mul hb hN
   have h3:((i.bytes*N:Nat):Int)≤281474976710656:=by omega
   rwa [Int.natCast_mul] at h3
  have run:(execOp a.eval o).run P w=.ok (.value (.slice (some ⟨w.heap.size,0,none⟩) 0 N)) (w.alloc (.cells (madeCells zv.cells (N*i.size)) e)):=by
   have hr:=run_make (P:=P) w t e i zv hu hi hzv .i64 .i64 0 N (Int.le_refl _) (by omega) hbytes (by omega)
   simp only [Int.toNat_zero,Int.toNat_natCast] at hr
   simp only [execOp,ho,aDl,e1,e2,hr,Result.andThen]
  obtain ⟨g1,g2⟩:=hg.newBlk (aBs w (.cells (madeCells zv.cells (N*i.size)) e)) hG (by omega) (.vec e i.size []) ⟨w.heap.size,0,N,i.size,0⟩ (fun x hx=>by simp only [Occ] at hx; rw [hx.2,aBq]; omega) (fun G' D' hm=>by
   refine ⟨rfl,Nat.zero_le _,by show N<2^63; omega,fun e he=>by simp at he,fun _=>⟨_,_,_,aA0 _ _,⟨by show 0+N*i.size≤_; rw [size_madeCells]; omega,rfl⟩,⟨fun i _=>(by simp),fun _=>(by simp)⟩,fun i j x hx=>by simp at hx⟩⟩)
  rw [run]
  simp only [Oper.upon,hdst]
  have g3:=g1.put (d:=some d) (x:=.own (s.nx+d) i.size 0 0) (v:=.slice (some ⟨w.heap.size,0,none⟩) 0 N) (by simpa [aA4] using hd)
   (.own _ _ _ _ ⟨w.heap.size,0,N,i.size,0⟩ _ _ (aAf _ _ _) rfl (Nat.zero_le _) rfl (by show N<2^63; omega) (fun _=>by simp))
  exact hn _ _ _ _ hK g3 g2 (aFj _ rfl rfl)
 ·exact h.elim
theorem bV3 {d:Nat} (hd:d<n) (hdst:o.dst=some d) {t e:TypeId} {i:TypeInfo} {len:Operand} {m:Int} (hu:P.underlying t=some (.slice e)) (hi:P.info? e=some i) (h0:0<m) (h1:m≤65536) (hz:i.zero=some (.int .u8 0)) (hs:i.size=1) (hb:i.bytes≤8)
 (hl:opd n len=some (.k (.int .i64 m))) (ho:o.op=.makeSlice t len (.const (.int .i64 m))):aBe P D n o (.mkz d e m.toNat):=by
 intro s G a w K next Q h hg hn hfree
 have hG:=hfree d rfl
 simp only [aAc] at h
 have rl:=aAi hg hl
 have ri:∀ {k:IntKind} {x:Int} {v:Value},Rep G (Dp D s.L G) w (.int k x) v→v=.int k x:=fun h=>by cases h; rfl
 have e2:a.eval len=.int .i64 m:=by
  simp only [St.ev] at rl
  exact ri rl
 obtain ⟨N,rfl⟩:∃ N:Nat,m=N:=⟨m.toNat,by omega⟩
 simp only [Int.toNat_natCast] at h ⊢
 have hN:N≤65536:=by omega
 have hbytes:(i.bytes:Int)*(N:Int)≤281474976710656:=by
  have:i.bytes*N≤8*65536:=Nat.mul_le_mul hb hN
  have h3:((i.bytes*N:Nat):Int)≤281474976710656:=by omega
  rwa [Int.natCast_mul] at h3
 have run:(execOp a.eval o).run P w=.ok (.value (.slice (some ⟨w.heap.size,0,none⟩) N N)) (w.alloc (.cells (madeCells #[.int .u8 0] N) e)):=by
  have hr:=run_make (P:=P) w t e i (.int .u8 0) hu hi hz .i64 .i64 N N (by omega) (Int.le_refl _) hbytes (by omega)
  simp only [Int.toNat_natCast,hs,Nat.mul_one] at hr
  have e3:a.eval (.const (.int .i64 (N:Int)))=.int .i64 N:=rfl
  simp only [execOp,ho,aDl,e2,e3,hr,Result.andThen]
  rfl
 have hget:∀ j,j<N→(madeCells #[Value.int .u8 0] N).getD j undef=.int .u8 0:=fun j hj=>by
  have:(madeCells #[Value.int .u8 0] N).toList=List.replicate N (.int .u8 0):=toList_madeCells_one _ _
  have hsz:j<(madeCells #[Value.int .u8 0] N).size:=by rw [size_madeCells]; exact hj
  rw [Array.getD_eq_getD_getElem?,Array.getElem?_eq_getElem hsz,Option.getD_some,← Array.getElem_toList hsz]
  simp only [this,List.getElem_replicate]
 obtain ⟨g1,g2⟩:=hg.newBlk (aBs w (.cells (madeCells #[.int .u8 0] N) e)) hG (by omega) (.vec e 1 (aAs (List.replicate N 0))) ⟨w.heap.size,0,N,1,0⟩ (fun x hx=>by simp only [Occ] at hx; rw [hx.2,aBq]; omega) (fun G' D' hm=>by
  refine ⟨rfl,by simp [aAs],by show N<2^63; omega,fun e' he'=>?_,fun _=>⟨_,_,_,aA0 _ _,⟨by show 0+N*1≤_; rw [size_madeCells]; omega,rfl⟩,⟨fun i _=>(by simp),fun h=>absurd rfl h⟩,fun i j x hx=>?_⟩⟩
  ·simp only [aAs,List.mem_map] at he'
   obtain ⟨b,_,rfl⟩:=he'
   rfl
  ·cases hb:(List.replicate N (0:UInt8))[i]? with
   | none =>
     simp only [aAs,List.getElem?_map,hb,Option.map_none,Option.bind_none] at hx
     cases hx
   | some b =>
     simp only [aAs,List.getElem?_map,hb,Option.map_some,Option.bind_some,V.cells] at hx
     obtain ⟨hi2,hb2⟩:=List.getElem?_eq_some_iff.1 hb
     rw [List.getElem_replicate] at hb2
     subst hb2
     rw [List.length_replicate] at hi2
     cases j with
     | zero =>
       simp only [List.getElem?_cons_zero,Option.some.injEq] at hx
       subst hx
       rw [show 0+i*1+0=i from by omega,hget i hi2]
       exact .int _ _
     | succ j=>simp at hx)
 rw [run]
 simp only [Oper.upon,hdst]
 have g3:=g1.put (d:=some d) (x:=.own (s.nx+d) 1 0 N) (v:=.slice (some ⟨w.heap.size,0,none⟩) N N) (by simpa [aA4] using hd)
  (.own _ _ _ _ ⟨w.heap.size,0,N,1,0⟩ _ _ (aAf _ _ _) rfl (Nat.le_refl _) rfl (by show N<2^63; omega) (fun _=>by simp))
 exact hn _ _ _ _ h g3 g2 (aFj _ rfl rfl)
theorem aFt (hg:Good P D n s G a w) {y:Operand} {y':Src} (hy:opd n y=some y') {z:Nat} {K':List V→Prop} (h:aAu z s.L (s.ev y') K') :
 ∃ ys news,K' ys∧(Builtin.lenOf (a.eval y)).run P w=.ok ys.length w∧(∀ w':World,w'.heap=w.heap→(Builtin.firstCells z ys.length (a.eval y)).run P w'=.ok news w')∧news.size=ys.length*z∧(∀ u∈news.toList,u.oneCell'=true) ∧
   (∀ e,e∈ys→e.ncells=some z)∧(∀ i j c,(ys[i]?.bind fun e=>e.cells[j]?)=some c→Rep G (Dp D s.L G) w c (news.getD (i*z+j) undef)):=by
 have ry:=aAi hg hy
 have rows:∀ (ys:List V) (b q len cap:Nat),a.eval y=.slice (some ⟨b,q,none⟩) len cap→ys.length=len→(∀ e,e∈ys→e.ncells=some z) →
  (∀ i j c,(ys[i]?.bind fun e=>e.cells[j]?)=some c→(w.cell? ⟨b,q+i*z+j,none⟩).isSome=true)→(∀ i j c,(ys[i]?.bind fun e=>e.cells[j]?)=some c→Rep G (Dp D s.L G) w c (aDt w b (q+i*z+j)))→K' ys →
  ∃ ys news,K' ys∧(Builtin.lenOf (a.eval y)).run P w=.ok ys.length w∧(∀ w':World,w'.heap=w.heap→(Builtin.firstCells z ys.length (a.eval y)).run P w'=.ok news w')∧news.size=ys.length*z∧(∀ u∈news.toList,u.oneCell'=true) ∧
  (∀ e,e∈ys→e.ncells=some z)∧(∀ i j c,(ys[i]?.bind fun e=>e.cells[j]?)=some c→Rep G (Dp D s.L G) w c (news.getD (i*z+j) undef)):=by
  intro ys b q len cap hv hl hz hs hr hK
  have at_:∀ m,m<ys.length*z→∃ i j c,m=i*z+j∧i<ys.length∧j<z∧(ys[i]?.bind fun e=>e.cells[j]?)=some c:=by
   intro m hm
   have hz0:0<z:=by
    rcases Nat.eq_zero_or_pos z with h | h
    ·subst h; simp at hm
    ·exact h
   have hi:m / z<ys.length:=Nat.div_lt_of_lt_mul (by rwa [Nat.mul_comm] at hm)
   have hj:m % z<z:=Nat.mod_lt _ hz0
   have he:ys[m / z]?=some ys[m / z]:=by simp [hi]
   have hlen:=aA7 (hz _ (mem_of_getElem? he))
   refine ⟨m / z,m % z,(ys[m / z].cells)[m % z]'(by rw [hlen]; exact hj),by rw [Nat.mul_comm]; exact (Nat.div_add_mod m z).symm,hi,hj,?_⟩
   rw [he,Option.bind_some]
   simp [hlen,hj]
  have run:∀ w':World,w'.heap=w.heap→_:=fun w' hw=>run_loadCells (P:=P) w' ⟨b,q,none⟩ (ys.length*z) (fun m=>aDt w b (q+m)) (fun m hm=>by
   obtain ⟨i,j,c,e,_,_,hc⟩:=at_ m hm
   rw [aEp,show w'.cell? ⟨b,q+m,none⟩=w.cell? ⟨b,q+m,none⟩ by simp [World.cell?,hw]]
   have:=hs i j c hc
   rw [Nat.add_assoc,← e] at this
   exact aOs this)
  refine ⟨ys,_,hK,by simp [hv,Builtin.lenOf,hl],fun w' hw=>by simp only [hv,Builtin.firstCells]; exact run w' hw,by simp,fun u hu=>?_,hz,fun i j c hc=>?_⟩
  ·simp only [List.mem_map,List.mem_range] at hu
   obtain ⟨m,hm,rfl⟩:=hu
   obtain ⟨i,j,c,e,hi,hj,hc⟩:=at_ m hm
   have h1:=hr i j c hc
   rw [Nat.add_assoc,← e] at h1
   have he:ys[i]?=some ys[i]:=by simp [hi]
   rw [he,Option.bind_some] at hc
   exact (aSz h1 (aHq (hz _ (mem_of_getElem? he)) c (mem_of_getElem? hc))).1
  ·have hi:i<ys.length:=by
    cases he:ys[i]? with
    | none=>rw [he] at hc; simp at hc
    | some e'=>exact (List.getElem?_eq_some_iff.1 he).1
   have hj:j<z:=by
    have he:ys[i]?=some ys[i]:=by simp [hi]
    rw [he,Option.bind_some] at hc
    rw [← aA7 (hz _ (mem_of_getElem? he))]
    exact (List.getElem?_eq_some_iff.1 hc).1
   have hm:i*z+j<ys.length*z:=by
    have:(i+1)*z≤ys.length*z:=Nat.mul_le_mul_right _ (by omega)
    rw [Nat.add_mul] at this; omega
   have:=hr i j c hc
   rw [Nat.add_assoc] at this
   simpa [Array.getD_eq_getD_getElem?,hm] using this
 have none_:∀ (b:Option Addr) (cap:Nat),a.eval y=.slice b 0 cap→K' [] →
  ∃ ys news,K' ys∧(Builtin.lenOf (a.eval y)).run P w=.ok ys.length w∧(∀ w':World,w'.heap=w.heap→(Builtin.firstCells z ys.length (a.eval y)).run P w'=.ok news w')∧news.size=ys.length*z∧(∀ u∈news.toList,u.oneCell'=true) ∧
  (∀ e,e∈ys→e.ncells=some z)∧(∀ i j c,(ys[i]?.bind fun e=>e.cells[j]?)=some c→Rep G (Dp D s.L G) w c (news.getD (i*z+j) undef)):=by
  intro b cap hv hK
  refine ⟨[],#[],hK,by simp [hv,Builtin.lenOf],fun w' _=>?_,by simp,by simp,by simp,by simp⟩
  cases b <;> simp [hv,Builtin.firstCells,loadCells,loadCellsFrom]
 unfold aAu at h
 split at h
 ·rename_i hb
  rw [hb] at ry
  exact none_ _ _ (aD2 ry) h
 ·rename_i z' es hb
  rw [hb] at ry
  obtain ⟨rfl,hK⟩:=h
  obtain ⟨b,cap,bb,q,ev,r1,r2,r3,r4,r5,r6⟩:=aHf ry
  rcases Nat.eq_zero_or_pos es.length with h0 | h0
  ·have:es=[]:=List.length_eq_zero_iff.1 h0
   subst this
   exact none_ _ _ ev hK
  ·obtain ⟨rfl,_,_⟩:=r3 h0
   exact rows es bb q _ cap ev rfl r4 r5 r6 hK
 ·rename_i id z' off len hb
  rw [hb] at ry
  obtain ⟨g,b,cap,ev,r1,r2,r3,r4,r5,r6⟩:=aE6 ry
  split at h
  ·rename_i sz es hL
   obtain ⟨rfl,h1,hK⟩:=h
   have hlen:((es.drop off).take len).length=len:=by simp; omega
   rcases Nat.eq_zero_or_pos len with h0 | h0
   ·subst h0
    simp only [List.take_zero] at hK
    exact none_ _ _ ev hK
   ·obtain rfl:=r6 (by omega)
    obtain ⟨g',k1,e1,e2,e3,e4,e5⟩:=hg.hp.blk _ _ hL
    obtain rfl:g=g':=Option.some.inj (r1.symm.trans k1)
    obtain rfl:z'=sz:=r2.symm.trans e1
    obtain ⟨c',ty,fr,k2,k3,k4,k5⟩:=e5 (by omega)
    have get:∀ (i j:Nat) (c:V),((((es.drop off).take len)[i]?).bind fun e=>e.cells[j]?)=some c→((es[off+i]?).bind fun e=>e.cells[j]?)=some c∧i<len:=by
     intro i j c hc
     rw [List.getElem?_take] at hc
     split at hc
     ·rename_i hi; rw [List.getElem?_drop] at hc; exact ⟨hc,hi⟩
     ·simp at hc
    refine rows _ g.blk (g.off+off*z') len cap ev hlen (fun e he=>e4 e (List.mem_of_mem_drop (List.mem_of_mem_take he))) (fun i j c hc=>?_) (fun i j c hc=>?_) hK
    ·obtain ⟨q1,q2⟩:=get i j c hc
     rw [aA9 k2]
     have hj:j<z':=by
      cases he:es[off+i]? with
      | none=>rw [he] at q1; simp at q1
      | some e' =>
        rw [he,Option.bind_some] at q1
        rw [← aA7 (e4 e' (mem_of_getElem? he))]
        exact (List.getElem?_eq_some_iff.1 q1).1
     have:(off+i+1)*z'≤g.cap*z':=Nat.mul_le_mul_right _ (by omega)
     rw [Nat.add_mul,Nat.add_mul] at this
     simp; omega
    ·obtain ⟨q1,q2⟩:=get i j c hc
     rw [aBo k2]
     have:=k5 _ _ _ q1
     rw [Nat.add_mul] at this
     rwa [show g.off+off*z'+i*z'+j=g.off+(off*z'+i*z')+j by omega]
  ·exact h.elim
 ·rename_i t hb
  rw [hb] at ry
  obtain ⟨rfl,hK⟩:=h
  obtain ⟨ev,hlen⟩:=aCk ry
  have hz':(⟨t.toArray⟩:ByteArray).size=t.length:=by simp [ByteArray.size]
  have hx:((⟨t.toArray⟩:ByteArray).extract 0 t.length)=⟨t.toArray⟩:=by rw [aNo]; simp
  refine ⟨_,(t.toArray.map fun b=>Value.int .u8 b.toNat),hK,by simp [ev,Builtin.lenOf,hz'],fun w' _=>?_,by simp,fun u hu=>?_,fun e he=>?_,fun i j c hc=>?_⟩
  ·simp only [ev,Builtin.firstCells,List.length_map,hx]; rfl
  ·simp only [List.map_toArray,List.mem_map] at hu
   obtain ⟨b,_,rfl⟩:=hu; rfl
  ·obtain ⟨b,_,rfl⟩:=List.mem_map.1 he; rfl
  ·cases hb':t[i]? with
   | none=>simp [hb'] at hc
   | some b =>
     simp only [List.getElem?_map,hb',Option.map_some,Option.bind_some,V.cells] at hc
     match j,hc with
     | 0,hc =>
       simp at hc; subst hc
       have hi:i<t.length:=(List.getElem?_eq_some_iff.1 hb').1
       have hbb:=(List.getElem?_eq_some_iff.1 hb').2
       have:(t.toArray.map fun b=>Value.int .u8 b.toNat).getD (i*1+0) undef=Value.int .u8 b.toNat:=by
        simp [Array.getD_eq_getD_getElem?,hi,hbb]
       rw [this]; exact .int _ _
 ·exact h.elim
theorem bSn {d:Nat} (hd:d<n) (hdst:o.dst=some d) {src dst e:TypeId} {x:Operand} {x':Src} (hs:P.underlying src=some .string) (ht:P.underlying dst=some (.slice e)) (he:P.underlying e=some (.int .u8))
 (hx:opd n x=some x') (ho:o.op=.convert src dst x):aBe P D n o (.s2b d e x'):=by
 intro s G a w K next Q h hg hn hfree
 have hG:=hfree d rfl
 simp only [aAc] at h
 have rx:=aAi hg hx
 split at h
 ·rename_i t hev
  rw [hev] at rx
  obtain ⟨ev,hlen⟩:=aCk rx
  have hsz:(⟨t.toArray⟩:ByteArray).size=t.length:=by simp [ByteArray.size]
  have hge:=grownCap_ge w t.length 0 e
  have hle:=grownCap_le_maxLen w t.length 0 e (by unfold maxLen; omega)
  obtain ⟨cap,hcap⟩:∃ cap,cap=grownCap w t.length 0 e:=⟨_,rfl⟩
  rw [← hcap] at hge hle
  have hc2:cap<2^63:=by unfold maxLen at hle; omega
  obtain ⟨C,hC⟩:∃ C,C=bytesRow ⟨t.toArray⟩ cap:=⟨_,rfl⟩
  have hCs:C.size=cap:=by
   rw [hC]
   simp only [bytesRow,Array.size_append,Array.size_map,Array.size_replicate,hsz]
   show t.toArray.size+_=_
   simp; omega
  have hCg:∀ (i:Nat) (b:UInt8),t[i]?=some b→C.getD i undef=.int .u8 b.toNat:=by
   intro i b hb
   have hi:i<t.length:=(List.getElem?_eq_some_iff.1 hb).1
   have hbb:=(List.getElem?_eq_some_iff.1 hb).2
   rw [hC]
   simp [bytesRow,Array.getD_eq_getD_getElem?,Array.getElem?_append,hi,hbb]
  have run:(execOp a.eval o).run P w=.ok (.value (.slice (some ⟨w.heap.size,0,none⟩) t.length cap)) (w.drew.alloc (.cells C e (C.size,C.size+1))):=by
   have hr:=run_bytes_of_string (P:=P) w src dst e ⟨t.toArray⟩ hs ht he
   rw [hsz,← hcap,← hC] at hr
   simp only [execOp,ho,aDl,ev,hr,Result.andThen]
  have hbel:Below w.heap.size w (w.drew.alloc (.cells C e (C.size,C.size+1))):=⟨rfl,rfl,rfl,by show w.heap.size≤(w.heap.push _).size; simp,fun k hk=>heap_alloc_old w.drew _ hk⟩
  have hself:(w.drew.alloc (.cells C e (C.size,C.size+1))).heap[w.heap.size]?=some (.cells C e (C.size,C.size+1)):=aA0 w.drew _
  have hsize:(w.drew.alloc (.cells C e (C.size,C.size+1))).heap.size=w.heap.size+1:=aBq w.drew _
  obtain ⟨g1,g2⟩:=hg.newBlk hbel hG (by omega) (.vec e 1 (aAs t)) ⟨w.heap.size,0,cap,1,0⟩ (fun x hx=>by simp only [Occ] at hx; rw [hx.2,hsize]; omega) (fun G' D' hm=>by
   refine ⟨rfl,by simp only [aAs,List.length_map]; exact hge,hc2,fun e' he'=>?_,fun _=>⟨C,e,_,hself,⟨by show 0+cap*1≤C.size; rw [hCs]; omega,rfl⟩,⟨fun i hi=>?_,fun h=>absurd rfl h⟩,fun i j x hx=>?_⟩⟩
   ·simp only [aAs,List.mem_map] at he'
    obtain ⟨b,_,rfl⟩:=he'
    rfl
   ·simp only at hi ⊢
    rw [hCs]; omega
   ·cases hb:t[i]? with
    | none=>simp [aAs,hb] at hx
    | some b =>
      simp only [aAs,List.getElem?_map,hb,Option.map_some,Option.bind_some,V.cells] at hx
      match j,hx with
      | 0,hx =>
        simp at hx; subst hx
        have:=hCg i b hb
        show Rep _ _ _ _ (C.getD (0+i*1+0) undef)
        rw [show 0+i*1+0=i by omega,this]; exact .int _ _)
  rw [run]
  simp only [Oper.upon,hdst]
  have g3:=g1.put (d:=some d) (x:=.own (s.nx+d) 1 0 t.length) (v:=.slice (some ⟨w.heap.size,0,none⟩) t.length cap) (by simpa [aA4] using hd)
   (.own _ _ _ _ ⟨w.heap.size,0,cap,1,0⟩ _ _ (aAf _ _ _) rfl hge rfl hc2 (fun _=>by simp))
  exact hn _ _ _ _ h g3 g2 (aFj _ rfl rfl)
 ·exact h.elim
theorem bSt (hd:aA4 n o.dst=true) {src dst e:TypeId} {x:Operand} {x':Src} (hs:P.underlying src=some (.slice e)) (ht:P.underlying dst=some .string) (he:P.underlying e=some (.int .u8))
 (hx:opd n x=some x') (ho:o.op=.convert src dst x):aBe P D n o (.b2s o.dst x'):=by
 intro s G a w K next Q h hg hn hfree
 simp only [aAc] at h
 obtain ⟨hno,h⟩:=h
 have rx:=aAi hg hx
 obtain ⟨ys,news,⟨bs,rfl,hK⟩,h1,h2,h3,h4,h5,h6⟩:=aFt hg hx h
 have hsl:∃ b len cap,a.eval x=.slice b len cap∧len<2^63∧(b=none→len=0):=by
  unfold aAu at h
  split at h
  ·rename_i hb; rw [hb] at rx; exact ⟨_,_,_,aD2 rx,by omega,fun _=>rfl⟩
  ·rename_i hb
   rw [hb] at rx
   obtain ⟨b,cap,bb,q,ev,r1,r2,r3,_⟩:=aHf rx
   refine ⟨_,_,_,ev,by omega,fun hbn=>?_⟩
   rcases Nat.eq_zero_or_pos (List.length _) with h0 | h0
   ·exact h0
   ·rw [(r3 h0).1] at hbn; cases hbn
  ·rename_i hb
   rw [hb] at rx
   obtain ⟨g,b,cap,ev,r1,r2,r3,r4,r5,r6⟩:=aE6 rx
   refine ⟨_,_,_,ev,by omega,fun hbn=>?_⟩
   rcases Nat.eq_zero_or_pos cap with h0 | h0
   ·omega
   ·rw [r6 h0] at hbn; cases hbn
  ·rename_i hb; rw [hb] at hno; exact hno.elim
  ·exact h.elim
 obtain ⟨b,len,cap,ev,hl63,hbn⟩:=hsl
 have hbl:(aAs bs).length=bs.length:=by simp [aAs]
 have hlen:len=bs.length:=by
  rw [ev,hbl] at h1
  simpa [Builtin.lenOf] using h1
 have run:(execOp a.eval o).run P w=.ok (.value (.string ⟨bs.toArray⟩)) w:=by
  have hcv:(convert src dst (a.eval x)).run P w=.ok (.string ⟨bs.toArray⟩) w:=by
   rw [ev,run_convert_bytes_string w src dst e b len cap hs he ht]
   cases b with
   | none =>
     have h0:=hbn rfl
     have:bs=[]:=List.length_eq_zero_iff.1 (by omega)
     subst this
     rfl
   | some ad =>
     have h2':=h2 w rfl
     rw [ev,hbl] at h2'
     simp only [Builtin.firstCells,Nat.mul_one] at h2'
     have hn:news=((bs.map fun b=>(b.toNat:Int)).map (Value.int .u8)).toArray:=by
      apply Array.ext
      ·rw [h3]; simp [aAs]
      ·intro i hi1 hi2
       have hib:i<bs.length:=by simpa using hi2
       have:=h6 i 0 (.int .u8 bs[i].toNat) (by simp [aAs,hib,V.cells])
       have e1:=aA3 this
       rw [Nat.mul_one,Nat.add_zero,Array.getD_eq_getD_getElem?,Array.getElem?_eq_getElem hi1,Option.getD_some] at e1
       rw [e1]; simp
     rw [hlen,run_bytesToString w ad bs.length cap (bs.map fun b=>(b.toNat:Int)) (by rw [h2',hn]),foldl_push_byteCells]
     have he0:ByteArray.empty.data=#[]:=rfl
     rw [he0]
     simp
  simp only [execOp,ho,aDl,hcv,Result.andThen]
 exact aAx hg hd hn (x:=.str bs) (v:=.string ⟨bs.toArray⟩) run (.str _ (by omega)) hK
end
end Go.Ab
namespace Go.Ab
open Go.RowKit
section
variable {P:Program} {D:Nat→Prop} {n:Nat} {hint:Nat→Nat} {s:St} {G:Ghost} {a:Act} {w:World} {o:Oper} {K:St→Prop} {next:Act→World→Prop} {Q:Exit→Act→World→Prop} {m:Option Nat}
theorem aD4 {c:Call} {x y:Operand} (hc:c.callee=.builtin .append) (ha:c.args.toList=[x,y]) (ho:o.op=.call c) :
 (execOp a.eval o).run P w=((Builtin.append_ c.argTypes o.type #[a.eval x,a.eval y]).run P w).andThen fun x w'=>.ok (.value x) w':=by
 have ha':c.args=#[x,y]:=by rw [← Array.toArray_toList (xs:=c.args),ha]
 simp only [execOp,ho,resolve,hc,ha']
 simp [invoke,builtin]
structure AppT (P:Program) (c:Call) (z:Nat) where
 t:TypeId
 u:TypeId
 e:TypeId
 i:TypeInfo
 zv:Value
 ht:c.argTypes=#[t,u]
 hu:P.underlying t=some (.slice e)
 hi:P.info? e=some i
 hz:i.size=z
 hzero:i.zero=some zv
 hzs:zv.cells.size=z
 hpos:0<z
 hby:i.bytes≤4096
 hnu:P.underlying u=some .string∨∃ d,P.underlying u=some (.slice d)
theorem aGk {c:Call} {z:Nat} (T:AppT P c z) (ty:TypeId) {base:Option Addr} {len cap:Nat} {y:Value} {m:Nat} {news:Array Value} {w':World}
 (hl:(Builtin.lenOf y).run P w=.ok m w) (hf:(Builtin.firstCells z m y).run P w=.ok news w) (hroom:len+m≤cap)
 (hst:(match base with | some b=>(storeCells (b.add (len*z)) news.toList).run P w | none=>.ok () w)=.ok () w') :
 (Builtin.append_ c.argTypes ty #[.slice base len cap,y]).run P w=.ok (.slice base (len+m) cap) w':=by
 obtain ⟨t,u,e,i,zv,ht,hu,hi,hz,hzero,hzs,hpos,hby,hnu⟩:=T
 subst hz
 rcases hnu with hd | ⟨d,hd⟩
 all_goals
  cases base with
  | none =>
    simp only [Result.ok.injEq,true_and] at hst
    subst hst
    simp [Builtin.append_,ht,run_underlying hu,run_underlying hd,sizeOf,typeInfo,hi,hl,hf,hroom]
  | some b =>
    simp [Builtin.append_,ht,run_underlying hu,run_underlying hd,sizeOf,typeInfo,hi,hl,hf,hroom,hst]
theorem aP4 {c:Call} {z:Nat} (T:AppT P c z) (ty:TypeId) {base:Option Addr} {len cap:Nat} {y:Value} {m:Nat} {olds news:Array Value}
 (hl:(Builtin.lenOf y).run P w=.ok m w) (hroom:¬ len+m≤cap) (hsmall:len+m≤2^32)
 (ho:∀ w':World,w'.heap=w.heap→(Builtin.firstCells z len (.slice base len cap)).run P w'=.ok olds w')
 (hf:∀ w':World,w'.heap=w.heap→(Builtin.firstCells z m y).run P w'=.ok news w') :
 ∃ (newCap:Nat) (rest:Array Value) (w1:World),len+m≤newCap∧newCap<2^63∧rest.size=(newCap-(len+m))*z∧w1.heap=w.heap∧w1.os=w.os∧w1.tape=w.tape∧w1.output=w.output ∧
   (Builtin.append_ c.argTypes ty #[.slice base len cap,y]).run P w=.ok (.slice (some ⟨w.heap.size,0,none⟩) (len+m) newCap) (w1.alloc (.cells (olds++news++rest) T.e)):=by
 obtain ⟨t,u,e,i,zv,ht,hu,hi,hz,hzero,hzs,hpos,hby,hnu⟩:=T
 subst hz
 have hge:=grownCap_ge w (len+m) cap e
 have hle:=grownCap_le_maxLen w (len+m) cap e (by unfold maxLen; omega)
 have h48:¬ (Builtin.nextslicecap (len+m) cap*i.bytes>2^48):=by
  have h1:=growslice_fits (need:=len+m) (old:=cap) (bytes:=i.bytes) (by omega) (by
   have:=Nat.mul_le_mul hsmall hby
   omega)
  omega
 have h48':¬ (281474976710656<Builtin.nextslicecap (len+m) cap*i.bytes):=by omega
 have h63:¬ (9223372036854775807<(len:Int)+(m:Int)∧i.bytes=0):=by omega
 have ho1:=ho w.drew rfl
 have hf1:=hf w.drew rfl
 have hfo:(Question.appendCap (len+m) cap e).forced=false:=rfl
 refine ⟨grownCap w (len+m) cap e,Builtin.zeroCells zv.cells (grownCap w (len+m) cap e-(len+m)),w.drew,hge,by unfold maxLen at hle; omega,by rw [size_zeroCells,hzs],rfl,rfl,rfl,rfl,?_⟩
 rcases hnu with hd | ⟨d,hd⟩
 all_goals
  simp [Builtin.append_,ht,run_underlying hu,run_underlying hd,sizeOf,typeInfo,hi,hl,hroom,h48',h63,zeroValue,hzero,hfo,IntKind.max,IntKind.signed,IntKind.bits]
  simp only [ho1,Result.andThen_ok,hf1]
  simp [newRow,grownCap]
  rfl
end
end Go.Ab
namespace Go.Ab
open Go.RowKit
section
variable {P:Program} {D:Nat→Prop} {n:Nat} {hint:Nat→Nat} {s:St} {G:Ghost} {a:Act} {w:World} {o:Oper} {K:St→Prop} {next:Act→World→Prop} {Q:Exit→Act→World→Prop} {m:Option Nat}
theorem Good.drop (hg:Good P D n s G a w) (id:Nat):Good P D n (s.drop id) G a w∧Nxt s.L G w (s.drop id).L G w:=by
 have hx:Nxt s.L G w (s.drop id).L G w:=by
  refine ⟨G.le_refl,Same.refl _ _,?_,rfl,rfl,rfl⟩
  rintro x _ ⟨i,bi,gi,h1,h2,h3⟩
  by_cases e:i=id
  ·subst e; simp [St.drop,aAf] at h1
  ·simp only [St.drop,aAe _ _ _ _ e] at h1
   exact ⟨i,bi,gi,h1,h2,h3⟩
 refine ⟨hg.later hx ?_,hx⟩
 refine hg.hp.turn (fun _=>False) hx hg.hp.fin (fun i bi hl _=>?_) (fun _ _ _ _ _ _ _ _=>rfl) (fun _ _ _ _ _ h=>h) (fun _ _ h=>h.elim) (fun _ _ _ h=>h.elim)
 by_cases e:i=id
 ·subst e; simp [St.drop,aAf] at hl
 ·simpa only [St.drop,aAe _ _ _ _ e] using hl
theorem aKn {l ys:List V} {i j:Nat} {c:V} (h:(((l++ys)[i]?).bind fun e=>e.cells[j]?)=some c) :
 (i<l.length∧((l[i]?).bind fun e=>e.cells[j]?)=some c)∨(l.length≤i∧((ys[i-l.length]?).bind fun e=>e.cells[j]?)=some c):=by
 rcases Nat.lt_or_ge i l.length with hi | hi
 ·rw [List.getElem?_append_left hi] at h; exact .inl ⟨hi,h⟩
 ·rw [List.getElem?_append_right hi] at h; exact .inr ⟨hi,h⟩
theorem aOg {ys:List V} {i j z:Nat} {c:V} (hz:∀ e,e∈ys→e.ncells=some z) (h:((ys[i]?).bind fun e=>e.cells[j]?)=some c):i<ys.length∧j<z:=by
 cases he:ys[i]? with
 | none=>rw [he] at h; simp at h
 | some e =>
   rw [he,Option.bind_some] at h
   rw [← aA7 (hz e (mem_of_getElem? he))]
   exact ⟨(List.getElem?_eq_some_iff.1 he).1,(List.getElem?_eq_some_iff.1 h).1⟩
theorem aUo {i j k z:Nat} (hi:i<k) (hj:j<z):i*z+j<k*z:=by
 have:(i+1)*z≤k*z:=Nat.mul_le_mul_right _ (by omega)
 rw [Nat.add_mul] at this; omega
theorem aGc {u v:Array Value} {i:Nat} (h:i<u.size):(u++v).getD i undef=u.getD i undef:=by
 simp [Array.getD_eq_getD_getElem?,Array.getElem?_append_left h]
theorem aJb {u v:Array Value} {i:Nat} (h:u.size≤i):(u++v).getD i undef=v.getD (i-u.size) undef:=by
 simp [Array.getD_eq_getD_getElem?,Array.getElem?_append_right h]
theorem bAp {b q:Nat} {c:Array Value} {ty:TypeId} {fr:Nat×Nat} (h:w.heap[b]?=some (.cells c ty fr)) (hf:¬ (fr.1≤q∧q<fr.2)):w.frozen? ⟨b,q,none⟩=false:=by
 simp only [World.frozen?,h]
 simpa using hf
theorem aUy (hg:Good P D n s G a w) {d:Nat} (hd:d<n) (hdst:o.dst=some d) (hn:∀ s' G' a' w',K s'→Good P D n s' G' a' w'→Nxt s.L G w s'.L G' w'→New (some d) s G s' G'→next a' w') {c:Call} {z:Nat} (T:AppT P c z) {x y:Operand} (hc:c.callee=.builtin .append) (ha:c.args.toList=[x,y]) (ho:o.op=.call c)
 {base:Option Addr} {cap:Nat} {l ys:List V} {olds news:Array Value} (hx:a.eval x=.slice base l.length cap) (hroom:¬ l.length+ys.length≤cap) (hsmall:l.length+ys.length≤2^32)
 (hl:(Builtin.lenOf (a.eval y)).run P w=.ok ys.length w) (hfo:∀ w':World,w'.heap=w.heap→(Builtin.firstCells z l.length (a.eval x)).run P w'=.ok olds w') (hf:∀ w':World,w'.heap=w.heap→(Builtin.firstCells z ys.length (a.eval y)).run P w'=.ok news w')
 (so:olds.size=l.length*z) (sn:news.size=ys.length*z) (no:∀ e,e∈l→e.ncells=some z) (nn:∀ e,e∈ys→e.ncells=some z)
 (ro:∀ i j c,(l[i]?.bind fun e=>e.cells[j]?)=some c→Rep G (Dp D s.L G) w c (olds.getD (i*z+j) undef)) (rn:∀ i j c,(ys[i]?.bind fun e=>e.cells[j]?)=some c→Rep G (Dp D s.L G) w c (news.getD (i*z+j) undef))
 (hfree:G (s.nx+d)=none) (hK:K ((s.add (s.nx+d) (.vec T.e z (l++ys))).set d (.own (s.nx+d) z 0 (l.length+ys.length)))):o.upon P a next Q ((execOp a.eval o).run P w):=by
 rw [hx] at hfo
 obtain ⟨newCap,rest,w1,h1,h2,h3,h4,h5,h6,h7,h8⟩:=aP4 T o.type hl hroom hsmall hfo hf
 have hG:=hfree
 have hb:Below w.heap.size w (w1.alloc (.cells (olds++news++rest) T.e)):=by
  have:=aBs w1 (.cells (olds++news++rest) T.e)
  rw [h4] at this
  exact ⟨this.os.trans h5,this.tape.trans h6,this.output.trans h7,by rw [aBq,h4]; omega,fun k hk=>(this.block k hk).trans (by rw [h4])⟩
 have hself:=aA0 w1 (.cells (olds++news++rest) T.e)
 rw [h4] at hself
 have hcap:olds.size+news.size+rest.size=newCap*z:=by rw [so,sn,h3,← Nat.add_mul,← Nat.add_mul]; congr 1; omega
 obtain ⟨g1,g2⟩:=hg.newBlk hb hG (by omega) (.vec T.e z (l++ys)) ⟨w.heap.size,0,newCap,z,0⟩ (fun x hx=>by simp only [Occ] at hx; rw [hx.2,aBq,h4]; omega) (fun G' D' hm=>by
  refine ⟨rfl,by simpa using h1,h2,fun e he=>?_,fun _=>⟨_,_,_,hself,by simp; omega,⟨fun i _=>(by simp),fun _=>(by simp)⟩,fun i j x hx=>?_⟩⟩
  ·rcases List.mem_append.1 he with he | he
   ·exact no e he
   ·exact nn e he
  ·have e0:(0:Nat)+i*z+j=i*z+j:=by omega
   simp only [e0]
   rcases aKn hx with ⟨hi,hx⟩ | ⟨hi,hx⟩
   ·have hb:=aOg no hx
    have:=aUo hb.1 hb.2
    have e:(olds++news++rest).getD (i*z+j) undef=olds.getD (i*z+j) undef:=by rw [Array.append_assoc,aGc (by omega)]
    rw [e]
    exact hm _ _ (ro _ _ _ hx)
   ·have hb:=aOg nn hx
    have h9:=aUo hb.1 hb.2
    have h10:l.length*z≤i*z:=Nat.mul_le_mul_right _ hi
    have h11:i*z+j-olds.size=(i-l.length)*z+j:=by rw [so,Nat.sub_mul]; omega
    have e:(olds++news++rest).getD (i*z+j) undef=news.getD ((i-l.length)*z+j) undef:=by rw [Array.append_assoc,aJb (by omega),h11,aGc (by omega)]
    rw [e]
    exact hm _ _ (rn _ _ _ hx))
 rw [aD4 hc ha ho,hx,h8]
 simp only [Result.andThen_ok,Oper.upon,hdst]
 have g3:=g1.put (d:=some d) (x:=.own (s.nx+d) z 0 (l.length+ys.length)) (v:=.slice (some ⟨w.heap.size,0,none⟩) (l.length+ys.length) newCap) (by simpa [aA4] using hd)
  (.own _ _ _ _ ⟨w.heap.size,0,newCap,z,0⟩ _ _ (aAf _ _ _) rfl h1 rfl h2 (fun _=>by simp))
 exact hn _ _ _ _ hK g3 g2 (aFj _ rfl rfl)
theorem bL3 {d:Nat} (hd:d<n) (hdst:o.dst=some d) {c:Call} {z:Nat} (T:AppT P c z) {x y:Operand} {x' y':Src} (hx:opd n x=some x') (hy:opd n y=some y') (hc:c.callee=.builtin .append) (ha:c.args.toList=[x,y]) (ho:o.op=.call c) :
 aBe P D n o (.app d T.e z x' y'):=by
 intro s G a w K next Q h hg hn hfree
 have rx:=aAi hg hx
 simp only [aAc] at h
 rcases h with ⟨hb,h,hK⟩ | h
 ·rw [hb] at rx
  have ev:=aD2 rx
  obtain ⟨ys,news,rfl,hl,hf,_⟩:=aFt (P:=P) hg hy h
  rw [aD4 hc ha ho,ev,aGk (w':=w) T o.type hl (hf w rfl) (by simp) rfl]
  simp only [Result.andThen_ok,Oper.upon,hdst]
  exact hn _ _ _ _ hK (hg.put (d:=some d) (x:=.nils) (v:=.slice none 0 0) (by simpa [aA4] using hd) .nils) (Nxt.refl _ _ _) (New.same rfl)
 simp only [aC0] at h
 split at h
 ·rename_i hb
  rw [hb] at rx
  have ev:=aD2 rx
  obtain ⟨ys,news,⟨p1,p2⟩,hl,hf,sn,_,nn,rn⟩:=aFt (P:=P) hg hy h
  by_cases h0:ys.length=0
  ·have hys:ys=[]:=List.length_eq_zero_iff.1 h0
   subst hys
   have hG:=hfree d rfl
   obtain ⟨g1,g2⟩:=hg.newBlk (Below.refl _ _) hG (by omega) (.vec T.e z []) ⟨0,0,0,z,0⟩ (fun x hx=>by simp [Occ] at hx) (fun G' D' hm =>
    ⟨rfl,Nat.le_refl _,by show 0<2^63; omega,fun e he=>by simp at he,fun h=>by simp at h⟩)
   rw [aD4 hc ha ho,ev,aGk (w':=w) T o.type hl (hf w rfl) (by simp) rfl]
   simp only [Result.andThen_ok,Oper.upon,hdst]
   have g3:=g1.put (d:=some d) (x:=.own (s.nx+d) z 0 0) (v:=.slice none 0 0) (by simpa [aA4] using hd) (.own _ _ _ _ ⟨0,0,0,z,0⟩ _ _ (aAf _ _ _) rfl (Nat.le_refl _) rfl (by show 0<2^63; omega) (fun h=>by simp at h))
   exact hn _ _ _ _ p2 g3 g2 (aFj _ rfl rfl)
  ·exact aUy hg hd hdst hn T hc ha ho (l:=[]) (olds:=#[]) ev (by simpa using h0) (by simpa using p1) hl (fun w' _=>by simp [ev,Builtin.firstCells]) hf (by simp) sn (by simp) nn (by simp) rn (hfree d rfl) (by simpa using p2)
 ·rename_i id z' off m hb
  rw [hb] at rx
  obtain ⟨g,base,cap,ev,r1,r2,r3,r4,r5,r6⟩:=aE6 rx
  split at h
  ·rename_i ty0 sz es hL
   obtain ⟨hty,rfl,p0,h⟩:=h
   obtain ⟨ys,news,⟨p1,p2⟩,hl,hf,sn,on,nn,rn⟩:=aFt (P:=P) hg hy h
   have hlo:((es.drop off).take m).length=m:=by simp; omega
   obtain ⟨l,olds,hl0,_,hfo,so,_,no,ro⟩:=aFt (P:=P) hg hx (z:=z') (K':=fun l=>l=(es.drop off).take m) (by rw [hb]; simp only [aAu,hL]; exact ⟨trivial,p0,trivial⟩)
   subst hl0
   rw [hlo] at so hfo
   by_cases hroom:m+ys.length≤cap
   ·obtain ⟨g',k1,e1,e2,e3,e4,e5⟩:=hg.hp.blk _ _ hL
    obtain rfl:g=g':=Option.some.inj (r1.symm.trans k1)
    obtain rfl:z'=sz:=r2.symm.trans e1
    have hG:=hfree d rfl
    generalize hid':s.nx+d=id' at hG p2
    have hne:id≠id':=fun e=>by subst e; rw [hG] at r1; cases r1
    obtain ⟨gd,xd⟩:=hg.drop id
    -- the world behind the stores
    have hw:∃ w':World,(match base with | some b=>(storeCells (b.add (m*z')) news.toList).run P w | none=>.ok () w)=.ok () w' ∧
     (∀ x,x≠g.blk→w'.heap[x]?=w.heap[x]?)∧w'.heap.size=w.heap.size∧w'.os=w.os∧w'.tape=w.tape∧w'.output=w.output ∧
     (0<cap→base=some ⟨g.blk,g.off+off*z',none⟩∧∃ c ty fr,w.heap[g.blk]?=some (.cells c ty fr)∧(g.off+g.cap*z'≤c.size∧ty=ty0)∧OpenV fr g.off (g.cap*z') c.size z' ∧
      (∀ i j x,(es[i]?.bind fun e=>e.cells[j]?)=some x→Rep G (Dp D s.L G) w x (c.getD (g.off+i*z'+j) undef))∧w'.heap[g.blk]?=some (.cells (putL c (g.off+off*z'+m*z') news.toList) ty fr))∧(cap=0→w'=w):=by
     rcases Nat.eq_zero_or_pos cap with h0 | h0
     ·have hy0:ys.length=0:=by omega
      have hn0:news.toList=[]:=by
       have:news.size=0:=by rw [sn,hy0]; simp
       simpa using this
      refine ⟨w,?_,fun _ _=>rfl,rfl,rfl,rfl,rfl,fun h=>by omega,fun _=>rfl⟩
      cases base <;> simp [hn0,storeCells]
     ·obtain rfl:=r6 h0
      obtain ⟨c',ty,fr,k2,k3,k4,k5⟩:=e5 (by omega)
      obtain ⟨s1,s2,s3,s4,s5,s6⟩:=aEm g.blk news.toList (g.off+off*z'+m*z') w k2
      have hfit:off*z'+m*z'+ys.length*z'≤g.cap*z':=by rw [← Nat.add_mul,← Nat.add_mul]; exact Nat.mul_le_mul_right _ (by omega)
      refine ⟨_,?_,s2,s3,s4,s5,s6,fun _=>⟨rfl,c',ty,fr,k2,k3,k4,k5,s1⟩,fun h=>by omega⟩
      show (storeCells ((⟨g.blk,g.off+off*z',none⟩:Addr).add (m*z')) news.toList).run P w=_
      rw [aEp]
      have:=run_storeCells_cells (P:=P) g.blk (g.off+off*z'+m*z') news.toList 0 w (fun j hj=>by rw [aA9 k2]; simp [sn] at hj; simp; omega) (fun j hj=>by
       have h3:=k4 (off*z'+m*z'+j) (by simp [sn] at hj; omega)
       exact bAp k2 (by omega)) on
      simpa using this
    obtain ⟨w',hst,o1,o2,o3,o4,o5,o6,o7⟩:=hw
    have hown:∀ x,Own (s.drop id).L G x→Own s.L G x:=fun x=>by
     rintro ⟨i,bi,gi,q1,q2,q3⟩
     by_cases e:i=id
     ·subst e; simp [St.drop,aAf] at q1
     ·simp only [St.drop,aAe _ _ _ _ e] at q1
      exact ⟨i,bi,gi,q1,q2,q3⟩
    let gb:GB:=⟨g.blk,g.off+off*z',cap,z',g.aux⟩
    have hx:Nxt s.L G w ((s.drop id).add id' (.vec T.e z' ((es.drop off).take m++ys))).L (upd G id' (some gb)) w':=by
     refine ⟨aUx hG gb,⟨by omega,fun x hx hnx=>?_⟩,?_,o3,o4,o5⟩
     ·rcases Nat.eq_zero_or_pos cap with h0 | h0
      ·rw [o7 h0]
      ·refine o1 x fun e=>hnx ⟨id,_,g,hL,r1,?_⟩
       exact ⟨by omega,e⟩
     ·rintro x hx ⟨i,bi,gi,q1,q2,q3⟩
      by_cases e:i=id'
      ·subst e
       simp only [St.add,aAf,Option.some.injEq] at q1 q2
       subst q1 q2
       have q3':0<cap∧x=g.blk:=q3
       exact ⟨id,_,g,hL,r1,⟨by omega,q3'.2⟩⟩
      ·simp only [St.add,aAe _ _ _ _ e] at q1 q2
       exact hown x ⟨i,bi,gi,q1,q2,q3⟩
    have hgood:Good P D n ((s.drop id).add id' (.vec T.e z' ((es.drop off).take m++ys))) (upd G id' (some gb)) a w':=by
     refine hg.later hx ?_
     refine hg.hp.turn (·=id') hx (fun i hi=>(aAe _ _ _ _ (show i≠id' from fun e=>by subst e; have hi':s.nx+n≤i:=hi; omega)).trans (hg.hp.fin i hi)) (fun i bi hl' hni=>?_) (fun i bi gi x hl' hni hgi hocc=>?_) (fun i bi gi _ hni hgi=>by rw [aAe _ _ _ _ hni]; exact hgi) (fun i j hi hj=>hi.trans hj.symm) (fun i bi hl' hi=>?_)
     ·by_cases e:i=id
      ·subst e; simp [St.add,St.drop,upd,hni] at hl'
      ·simpa [St.add,St.drop,upd,hni,e] using hl'
     ·by_cases e:i=id
      ·subst e; simp [St.add,St.drop,upd,hni] at hl'
      ·have hl2:s.L i=some bi:=by simpa [St.add,St.drop,upd,hni,e] using hl'
       rcases Nat.eq_zero_or_pos cap with h0 | h0
       ·rw [o7 h0]
       ·refine o1 x fun ex=>?_
        exact hg.hp.apart i id bi _ gi g x hl2 hL hgi r1 e hocc ⟨by omega,ex⟩
     ·subst hi
      simp only [St.add,aAf,Option.some.injEq] at hl'
      subst hl'
      refine ⟨gb,aAf _ _ _,?_,fun x hocc=>?_⟩
      ·refine ⟨rfl,by simp only [List.length_append,hlo]; exact hroom,by show cap<2^63; omega,fun e he=>?_,fun hcap=>?_⟩
       ·rcases List.mem_append.1 he with he | he
        ·exact no e he
        ·exact nn e he
       ·obtain ⟨_,c',ty,fr,k2,k3,k4,k5,k6⟩:=o6 hcap
        have hfit:off*z'+cap*z'=g.cap*z':=by rw [← Nat.add_mul]; congr 1; omega
        have hfit2:m*z'+ys.length*z'≤cap*z':=by rw [← Nat.add_mul]; exact Nat.mul_le_mul_right _ hroom
        obtain ⟨u1,u2⟩:=aIg news.toList c' (g.off+off*z'+m*z') (by simp [sn]; omega)
        refine ⟨_,ty,fr,k6,⟨by rw [u1]; show g.off+off*z'+cap*z'≤c'.size; omega,k3.2.trans hty⟩,⟨fun i hi=>?_,by rw [u1]; exact k4.un⟩,fun i j x hx'=>?_⟩
        ·have:=k4 (off*z'+i) (by have hi':i<cap*z':=hi; omega)
         have e:g.off+off*z'+i=g.off+(off*z'+i):=by omega
         show ¬ (fr.1≤g.off+off*z'+i∧g.off+off*z'+i<fr.2)
         rw [e]; exact this
        ·show Rep _ _ _ x ((putL c' (g.off+off*z'+m*z') news.toList).getD (g.off+off*z'+i*z'+j) undef)
         rw [u2]
         have hnl:news.toList.length=ys.length*z':=by simpa using sn
         rcases aKn hx' with ⟨hi,hx'⟩ | ⟨hi,hx'⟩
         ·rw [hlo] at hi
          have hb':=aOg no hx'
          have:=aUo hi hb'.2
          rw [if_neg (by omega)]
          rw [List.getElem?_take_of_lt hi,List.getElem?_drop] at hx'
          have:=k5 _ _ _ hx'
          rw [Nat.add_mul] at this
          have e:g.off+off*z'+i*z'+j=g.off+(off*z'+i*z')+j:=by omega
          rw [e]; exact hx.rep this
         ·rw [hlo] at hi hx'
          have hb':=aOg nn hx'
          have h9:=aUo hb'.1 hb'.2
          have h10:m*z'≤i*z':=Nat.mul_le_mul_right _ hi
          have h11:i*z'+j-m*z'=(i-m)*z'+j:=by rw [Nat.sub_mul]; omega
          have h12:g.off+off*z'+i*z'+j-(g.off+off*z'+m*z')=(i-m)*z'+j:=by rw [← h11]; omega
          rw [if_pos (by rw [hnl]; omega),h12]
          have:=rn _ _ _ hx'
          exact hx.rep (by simpa [Array.getD_eq_getD_getElem?,List.getD] using this)
      ·have hocc':0<cap∧x=g.blk:=hocc
       have haway:=hg.hp.away x ⟨id,_,g,hL,r1,⟨by omega,hocc'.2⟩⟩
       refine ⟨by omega,haway.2,fun i2 b2 g2 hl2 hn2 hg2 ho2=>?_⟩
       by_cases e:i2=id
       ·subst e; simp [St.add,St.drop,upd,hn2] at hl2
       ·have hl3:s.L i2=some b2:=by simpa [St.add,St.drop,upd,hn2,e] using hl2
        exact hg.hp.apart i2 id b2 _ g2 g x hl3 hL hg2 r1 e ho2 ⟨by omega,hocc'.2⟩
    rw [aD4 hc ha ho,ev,aGk (w':=w') T o.type hl (hf w rfl) hroom hst]
    simp only [Result.andThen_ok,Oper.upon,hdst]
    have g3:=hgood.put (d:=some d) (x:=.own id' z' 0 (m+ys.length)) (v:=.slice base (m+ys.length) cap) (by simpa [aA4] using hd)
     (.own _ _ _ _ gb _ _ (aAf _ _ _) rfl hroom rfl (by show cap<2^63; omega) (fun h=>by rw [(o6 h).1]; simp [gb]))
    exact hn _ _ _ _ p2 g3 hx (aFj gb rfl hid'.symm)
   ·obtain ⟨gd,xd⟩:=hg.drop id
    refine aUy gd hd hdst (fun s' G' a' w' hk hgood hnx hnew=>hn s' G' a' w' hk hgood (xd.trans hnx) hnew) T hc ha ho (l:=(es.drop off).take m) (ys:=ys) (by rw [hlo]; exact ev) (by rw [hlo]; exact hroom) (by rw [hlo]; exact p1) hl (by rw [hlo]; exact hfo) hf (by rw [hlo]; exact so) sn no nn
     (fun i j c hc=>xd.rep (ro i j c hc)) (fun i j c hc=>xd.rep (rn i j c hc)) (hfree d rfl) ?_
    rw [hlo]; exact p2
  ·exact h.elim
 ·exact h.elim
theorem bOi {d:Nat} (hd:d<n) (hdst:o.dst=some d) {c:Call} {z:Nat} (T:AppT P c z) {x y:Operand} {y':Src} (hx:opd n x=some (.k .nils)) (hy:opd n y=some y') (hc:c.callee=.builtin .append) (ha:c.args.toList=[x,y]) (ho:o.op=.call c) :
 aBe P D n o (.appl d T.e z y'):=by
 intro s G a w K next Q h hg hn hfree
 refine bL3 (P:=P) (D:=D) hd hdst T hx hy hc ha ho s G a w K next Q ?_ hg hn hfree
 show (_∧_)∨aC0 d T.e z V.nils (s.ev y') s K
 refine .inr ?_
 simp only [aAc] at h
 simp only [aC0]
 generalize s.ev y'=v at h ⊢
 cases v with
 | nils=>exact ⟨by simp,h⟩
 | lst sz es=>exact ⟨h.1,h.2.1,h.2.2⟩
 | _=>exact h.elim
end
end Go.Ab
namespace Go.Ab
open Go.RowKit
section
variable {P:Program} {D:Nat→Prop} {n:Nat} {hint:Nat→Nat} {s:St} {G:Ghost} {a:Act} {w:World} {o:Oper} {K:St→Prop} {next:Act→World→Prop} {Q:Exit→Act→World→Prop} {m:Option Nat}
theorem aFb (hg:Good P D n s G a w):∀ {xs:List Operand} {qs:List Src},opds n xs=some qs→qs.length=xs.length∧∀ (i:Nat) (y:V),(qs.map s.ev)[i]?=some y→Rep G (Dp D s.L G) w y ((xs.map a.eval)[i]?.getD undef)
 | [],qs,h=>by simp [opds] at h; subst h; simp
 | x::r,qs,h=>by
   simp only [opds] at h
   split at h
   ·rename_i y z h1 h2
    simp only [Option.some.injEq] at h
    subst h
    obtain ⟨l1,l2⟩:=aFb hg h2
    refine ⟨by simp [l1],fun i u hu=>?_⟩
    cases i with
    | zero=>simp at hu; subst hu; simpa using aAi hg h1
    | succ i=>simpa using l2 i u (by simpa using hu)
   ·simp at h
theorem aNy {c:Call} {f:Nat} (hc:c.callee=.value (.func f)) (hb:aC6 P f=true) (ho:o.op=.call c):(execOp a.eval o).run P w=.ok (.enter f (c.args.map a.eval)) w:=by
 unfold aC6 at hb
 split at hb
 ·rename_i fn hf
  simp only [Bool.and_eq_true,bne_iff_ne,ne_eq,Option.isSome_iff_exists] at hb
  obtain ⟨⟨body,hb⟩,hnm⟩:=hb
  simp only [execOp,ho,resolve,hc]
  simp [Act.eval,Deferred.ofValue,invoke,callFunc,hf,hb,hnm]
 ·simp at hb
theorem aQ3 {c:Call} {x:Operand} {f:Nat} {vs:Array Value} (hc:c.callee=.value x) (hv:a.eval x=.func (.func f) #[] vs) (hb:aC6 P f=true) (ho:o.op=.call c):(execOp a.eval o).run P w=.ok (.enter f (c.args.map a.eval++vs)) w:=by
 unfold aC6 at hb
 split at hb
 ·rename_i fn hf
  simp only [Bool.and_eq_true,bne_iff_ne,ne_eq,Option.isSome_iff_exists] at hb
  obtain ⟨⟨body,hb⟩,hnm⟩:=hb
  simp only [execOp,ho,resolve,hc]
  simp [hv,Deferred.ofValue,invoke,callFunc,hf,hb,hnm]
 ·simp at hb
theorem bN4 (hd:aA4 n o.dst=true) {f:Nat} {first captured:Array Operand} {qs:List Src} (h1:first.isEmpty=true) (hq:opds n captured.toList=some qs) (ho:o.op=.makeFunc (.func f) first captured):aBe P D n o (.clos o.dst f qs):=by
 intro s G a w K next Q h hg hn hfree
 obtain ⟨l1,l2⟩:=aFb hg hq
 simp only [aAc] at h
 have e:first=#[]:=by simpa using h1
 subst e
 refine aAx hg hd hn (x:=.fn f (qs.map s.ev)) (v:=.func (.func f) #[] (captured.map a.eval)) ?_ (.fn _ _ _ (by simp [l1]) fun i c hc=>?_) h
 ·simp only [execOp,ho,aDl]
  simp [Instr.makeFunc]
 ·have h1:=l2 i c hc
  have:(captured.map a.eval).getD i undef=(captured.toList.map a.eval)[i]?.getD undef:=by simp [Array.getD_eq_getD_getElem?]
  rw [this]
  exact h1
theorem bL4 (hd:aA4 n o.dst=true) {c:Call} {f:Nat} {qs:List Src} (hc:c.callee=.value (.func f)) (hb:aC6 P f=true) (hq:opds n c.args.toList=some qs) (ho:o.op=.call c):aBe P D n o (.call o.dst true f qs):=by
 intro s G a w K next Q h hg hn hfree
 obtain ⟨l1,l2⟩:=aFb hg hq
 simp only [aAc,if_true] at h
 obtain ⟨r,hp,hi,_,hK⟩:=h
 rw [aNy hc hb ho]
 simp only [Oper.upon]
 have hlt:∀ b,Dp D s.L G b→b<w.heap.size:=fun b hb=>hb.elim (hg.hp.dlt b) fun h=>(hg.hp.away b h).1
 refine (hp (Dp D s.L G) w (c.args.map a.eval) hlt hg.hp.gl.out (by simp [l1]) fun i y hy=>?_).mono ?_
 ·have h1:=l2 i y hy
  have:(c.args.map a.eval).getD i undef=(c.args.toList.map a.eval)[i]?.getD undef:=by simp [Array.getD_eq_getD_getElem?]
  rw [this]
  exact h1.free (aCa hi (mem_of_getElem? hy)) _
 ·rintro e w' ⟨v,rfl,hb',hr⟩
  obtain ⟨g1,g2⟩:=hg.grow hb'
  have hr':Rep G (Dp D s.L G) w' r v:=hr.mono (fun _ _ h=>by cases h) (fun b _ h=>h) (Same.refl _ _)
  exact hn _ _ _ _ hK (g1.put hd hr') (by rw [aDo]; exact g2) (New.same (aCi _ _ _))
theorem aUs (L:Heap):∀ (k:Nat) {x:V},x.one=true→(view L k x).one=true
 | 0,x,h=>by cases x <;> simpa [view] using h
 | k+1,x,h=>by
   cases x with
   | own id sz off len =>
     simp only [view]
     cases hb:L id with
     | none=>rfl
     | some b =>
       cases b with
       | vec ty0 sz' es =>
         by_cases hf:off+len≤es.length
         ·simp only [hf,if_true]; rfl
         ·simp only [hf,if_false]; rfl
       | _=>rfl
   | ptr id o =>
     simp only [view]
     cases hb:L id with
     | none=>rfl
     | some b=>cases b <;> rfl
   | _=>simp [V.one] at h <;> simp [view,V.one,h]
theorem aNs (L:Heap) (k:Nat) {x:V} {z:Nat} (h:x.ncells=some z):(view L k x).ncells=some z∧∀ (j:Nat) (c:V),(view L k x).cells[j]?=some c→∃ c0 m,m≤k∧x.cells[j]?=some c0∧c=view L m c0:=by
 cases k with
 | zero =>
   have e:view L 0 x=x:=by cases x <;> rfl
   rw [e]
   exact ⟨h,fun j c hc=>⟨c,0,Nat.le_refl _,hc,by cases c <;> rfl⟩⟩
 | succ k =>
   unfold V.ncells at h
   split at h
   ·rename_i cs
    split at h
    ·rename_i hall
     simp only [view,V.ncells,V.cells,List.length_map]
     rw [if_pos]
     ·refine ⟨h,fun j c hc=>?_⟩
      simp only [List.getElem?_map,Option.map_eq_some_iff] at hc
      obtain ⟨c0,h0,rfl⟩:=hc
      exact ⟨c0,k,by omega,h0,rfl⟩
     ·simp only [List.all_eq_true,List.mem_map] at hall ⊢
      rintro c ⟨c0,h0,rfl⟩
      exact aUs L k (hall c0 h0)
    ·simp at h
   ·rename_i hx
    split at h
    ·rename_i h1
     have h2:=aUs L (k+1) h1
     have hc:∀ y:V,y.one=true→y.cells=[y]∧y.ncells=some 1:=by
      intro y hy
      cases y <;> simp [V.one] at hy <;> simp [V.cells,V.ncells,V.one,hy]
     rw [(hc _ h2).1,(hc _ h2).2,(hc _ h1).1]
     refine ⟨h,fun j c hc=>?_⟩
     match j,hc with
     | 0,hc=>simp at hc; exact ⟨x,k+1,Nat.le_refl _,rfl,hc.symm⟩
    ·simp at h
theorem aId (hp:Hp P D n s G w):∀ (k:Nat) {x:V} {v:Value},Rep G (Dp D s.L G) w x v→∀ m,m≤k→Rep G D w (view s.L m x) v:=by
 intro k
 induction k with
 | zero =>
   intro x v h m hm
   obtain rfl:m=0:=by omega
   have e:view s.L 0 x=x:=by cases x <;> rfl
   rw [e]
   exact h.mono G.le_refl (fun b _ hn hd=>hn (.inl hd)) (Same.refl _ _)
 | succ k ih =>
   intro x v h m hm
   rcases Nat.lt_or_ge m (k+1) with hlt | hge
   ·exact ih h m (by omega)
   obtain rfl:m=k+1:=by omega
   have plain:Rep G D w x v:=h.mono G.le_refl (fun b _ hn hd=>hn (.inl hd)) (Same.refl _ _)
   cases x with
   | own id sz off len =>
     simp only [view]
     split
     ·rename_i sz' es hL
      split
      ·rename_i hfit
       obtain ⟨g,base,cap,ev,r1,r2,r3,r4,r5,r6⟩:=aE6 h
       obtain ⟨g',k1,e1,e2,e3,e4,e5⟩:=hp.blk _ _ hL
       obtain rfl:g=g':=Option.some.inj (r1.symm.trans k1)
       obtain rfl:sz=sz':=r2.symm.trans e1
       rw [ev]
       have hlen:(((es.drop off).take len).map (view s.L k)).length=len:=by simp; omega
       have get:∀ (i j:Nat) (c:V),(((((es.drop off).take len).map (view s.L k))[i]?).bind fun e=>e.cells[j]?)=some c→∃ c0 m,m≤k∧((es[off+i]?).bind fun e=>e.cells[j]?)=some c0∧c=view s.L m c0∧i<len∧j<sz:=by
        intro i j c hc
        cases he:((es.drop off).take len)[i]? with
        | none=>rw [List.getElem?_map,he] at hc; simp at hc
        | some e =>
          simp only [List.getElem?_map,he,Option.map_some,Option.bind_some] at hc
          have hmem:e∈es:=List.mem_of_mem_drop (List.mem_of_mem_take (mem_of_getElem? he))
          obtain ⟨q1,q2⟩:=aNs s.L k (e4 e hmem)
          obtain ⟨c0,m,hm,h1,h2⟩:=q2 j c hc
          have hi:i<len:=by
           have:=(List.getElem?_eq_some_iff.1 he).1
           simp at this; omega
          rw [List.getElem?_take_of_lt hi,List.getElem?_drop] at he
          refine ⟨c0,m,hm,by rw [he]; exact h1,h2,hi,?_⟩
          rw [← aA7 (e4 e hmem)]
          exact (List.getElem?_eq_some_iff.1 h1).1
       have key:Rep G D w (.lst sz (((es.drop off).take len).map (view s.L k))) (.slice base (((es.drop off).take len).map (view s.L k)).length cap):=by
        refine .lst _ _ _ _ g.blk (g.off+off*sz) (by omega) (by omega) (fun h0=>⟨r6 (by omega),?_⟩) (fun e he=>?_) (fun i j c hc=>?_) (fun i j c hc=>?_)
        ·exact hp.away _ ⟨id,_,g,hL,r1,⟨by omega,rfl⟩⟩
        ·obtain ⟨e0,h0,rfl⟩:=List.mem_map.1 he
         exact (aNs s.L k (e4 e0 (List.mem_of_mem_drop (List.mem_of_mem_take h0)))).1
        ·obtain ⟨c0,m,_,q1,_,q3,q4⟩:=get i j c hc
         obtain ⟨c',ty,fr,k2,k3,k4,k5⟩:=e5 (by omega)
         rw [aA9 k2]
         have:(off+i+1)*sz≤g.cap*sz:=Nat.mul_le_mul_right _ (by omega)
         rw [Nat.add_mul,Nat.add_mul] at this
         simp; omega
        ·obtain ⟨c0,m,hm,q1,rfl,q3,q4⟩:=get i j c hc
         obtain ⟨c',ty,fr,k2,k3,k4,k5⟩:=e5 (by omega)
         rw [aBo k2]
         have:=k5 _ _ _ q1
         rw [Nat.add_mul] at this
         have e:g.off+off*sz+i*sz+j=g.off+(off*sz+i*sz)+j:=by omega
         rw [e]; exact ih this m hm
       rwa [hlen] at key
      ·exact plain
     ·exact plain
   | ptr id o =>
     simp only [view]
     split
     ·rename_i ty cs hL
      obtain ⟨g,hG,ev⟩:=aDs h
      obtain ⟨g',k1,c',ty',fr,e1,e2,e3,e4,e5⟩:=hp.blk _ _ hL
      obtain rfl:g=g':=Option.some.inj (hG.symm.trans k1)
      rw [ev,e3,Nat.zero_add]
      obtain ⟨w1,w2⟩:=hp.away g.blk ⟨id,_,g,hL,k1,rfl⟩
      have get:∀ (j:Nat) (c:V),((cs.drop o).map (view s.L k))[j]?=some c→∃ c0,cs[o+j]?=some c0∧c=view s.L k c0:=fun j c hc=>by
       simp only [List.getElem?_map,Option.map_eq_some_iff,List.getElem?_drop] at hc
       obtain ⟨c0,h0,rfl⟩:=hc
       exact ⟨c0,h0,rfl⟩
      refine .cptr _ g.blk o w1 w2 (fun j c hc=>?_) (fun j c hc=>?_)
      ·obtain ⟨c0,h0,_⟩:=get j c hc
       have:=(List.getElem?_eq_some_iff.1 h0).1
       rw [aA9 e1]
       simp; omega
      ·obtain ⟨c0,h0,rfl⟩:=get j c hc
       rw [aBo e1]
       exact ih (e5 _ _ h0) k (Nat.le_refl _)
     ·exact plain
   | fn f cs =>
     obtain ⟨vs,rfl,hl,hr⟩:=aQc h
     simp only [view]
     refine .fn _ _ _ (by simpa using hl) fun i c hc=>?_
     simp only [List.getElem?_map,Option.map_eq_some_iff] at hc
     obtain ⟨c0,h0,rfl⟩:=hc
     exact ih (hr i c0 h0) k (Nat.le_refl _)
   | agg cs =>
     obtain ⟨vs,rfl,hl,hr⟩:=aEx h
     simp only [view]
     refine .agg _ _ (by simpa using hl) fun i c hc=>?_
     simp only [List.getElem?_map,Option.map_eq_some_iff] at hc
     obtain ⟨c0,h0,rfl⟩:=hc
     exact ih (hr i c0 h0) k (Nat.le_refl _)
   | tup cs =>
     obtain ⟨vs,rfl,hl,hr⟩:=aTg h
     simp only [view]
     refine .tup _ _ (by simpa using hl) fun i c hc=>?_
     simp only [List.getElem?_map,Option.map_eq_some_iff] at hc
     obtain ⟨c0,h0,rfl⟩:=hc
     exact ih (hr i c0 h0) k (Nat.le_refl _)
   | _=>exact plain
theorem bLt (hd:aA4 n o.dst=true) {c:Call} {f:Nat} {qs:List Src} (hc:c.callee=.value (.func f)) (hb:aC6 P f=true) (hq:opds n c.args.toList=some qs) (ho:o.op=.call c):aBe P D n o (.call o.dst false f qs):=by
 intro s G a w K next Q h hg hn hfree
 obtain ⟨l1,l2⟩:=aFb hg hq
 simp only [aAc,Bool.false_eq_true,if_false] at h
 obtain ⟨r,hp,hi,hf,hK⟩:=h
 rw [aNy hc hb ho]
 simp only [Oper.upon]
 refine (hp D w (c.args.map a.eval) hg.hp.dlt hg.hp.gl.outD (by simp [l1]) fun i y hy=>?_).mono ?_
 ·simp only [List.getElem?_map,Option.map_eq_some_iff] at hy
  obtain ⟨q,hq',rfl⟩:=hy
  have h1:=l2 i (s.ev q) (by simp [hq'])
  have:(c.args.map a.eval).getD i undef=(c.args.toList.map a.eval)[i]?.getD undef:=by simp [Array.getD_eq_getD_getElem?]
  rw [this]
  refine (aId hg.hp 3 h1 3 (Nat.le_refl _)).free (aCa hi (List.mem_map.2 ⟨q,List.mem_of_getElem? hq',rfl⟩)) _
 ·rintro e w' ⟨v,rfl,hb',hr⟩
  obtain ⟨g1,g2⟩:=hg.grow hb'
  exact hn _ _ _ _ hK (g1.put hd (hr.flat hf _ _ _)) (by rw [aDo]; exact g2) (New.same (aCi _ _ _))
theorem bJi (hd:aA4 n o.dst=true) {c:Call} {t:Nat} {qs:List Src} (hc:c.callee=.value (.tmp t)) (ht:t<n) (hq:opds n c.args.toList=some qs) (ho:o.op=.call c):aBe P D n o (.pcall o.dst (.t t) qs):=by
 intro s G a w K next Q h hg hn hfree
 obtain ⟨l1,l2⟩:=aFb hg hq
 simp only [aAc] at h
 split at h
 ·rename_i f cs hfn
  obtain ⟨hb,r,hp,hi,hf,hK⟩:=h
  have rx:=aId hg.hp 4 (aAi hg (show opd n (.tmp t)=some (.t t) by simp only [opd,if_pos ht])) 4 (Nat.le_refl _)
  rw [hfn] at rx
  obtain ⟨vs,hv,hvl,hvr⟩:=aQc rx
  rw [aQ3 hc hv hb ho]
  simp only [Oper.upon]
  refine (hp D w (c.args.map a.eval++vs) hg.hp.dlt hg.hp.gl.outD (by simp [l1,hvl]) fun i y hy=>?_).mono ?_
  ·by_cases hi':i<qs.length
   ·have hy2:=hy
    rw [List.getElem?_append_left (by simpa using hi')] at hy
    simp only [List.getElem?_map,Option.map_eq_some_iff] at hy
    obtain ⟨q,hq',rfl⟩:=hy
    have h1:=l2 i (s.ev q) (by simp [hq'])
    have:(c.args.map a.eval++vs).getD i undef=(c.args.toList.map a.eval)[i]?.getD undef:=by
     have hi':i<c.args.size:=by rw [l1] at hi'; simpa using hi'
     simp [Array.getD_eq_getD_getElem?,Array.getElem?_append,hi']
    rw [this]
    exact (aId hg.hp 3 h1 3 (Nat.le_refl _)).free (aCa hi (List.mem_of_getElem? hy2)) _
   ·have hy2:=hy
    rw [List.getElem?_append_right (by simp; omega)] at hy
    have h1:=hvr _ _ hy
    have:(c.args.map a.eval++vs).getD i undef=vs.getD (i-(qs.map fun a=>view s.L 3 (s.ev a)).length) undef:=by
     have hi':¬ i<c.args.size:=by rw [l1] at hi'; simpa using hi'
     have hz:qs.length=c.args.size:=by rw [l1]; simp
     simp [Array.getD_eq_getD_getElem?,Array.getElem?_append,hi',hz]
    rw [this]
    exact h1.free (aCa hi (List.mem_of_getElem? hy2)) _
  ·rintro e w' ⟨v,rfl,hb',hr⟩
   obtain ⟨g1,g2⟩:=hg.grow hb'
   have hr':Rep G (Dp D s.L G) w' r v:=hr.flat hf _ _ _
   exact hn _ _ _ _ hK (g1.put hd hr') (by rw [aDo]; exact g2) (New.same (aCi _ _ _))
 ·exact h.elim
theorem aFk:∀ {ks qs:List Nat} {a b:List V} {t:Bool},aAz (ks++qs) a b=some t→∃ a1 a2 b1 b2 t1 t2,a=a1++a2∧b=b1++b2∧a1.length=ks.length∧b1.length=ks.length∧aAz ks a1 b1=some t1∧aAz qs a2 b2=some t2∧t=(t1&&t2)
 | [],qs,a,b,t,h=>⟨[],a,[],b,true,t,rfl,rfl,rfl,rfl,rfl,h,by simp⟩
 | k::ks,qs,a,b,t,h=>by
   cases a with
   | nil=>cases b <;> simp [aAz] at h
   | cons x r =>
     cases b with
     | nil=>simp [aAz] at h
     | cons y q =>
       simp only [List.cons_append,aAz] at h
       split at h
       ·rename_i u v h1 h2
        simp only [Option.some.injEq] at h
        subst h
        obtain ⟨a1,a2,b1,b2,t1,t2,rfl,rfl,l1,l2,k1,k2,rfl⟩:=aFk h2
        exact ⟨x::a1,a2,y::b1,b2,u&&t1,t2,rfl,rfl,by simp [l1],by simp [l2],by simp only [aAz,h1,k1],k2,by rw [Bool.and_assoc]⟩
       ·simp at h
theorem aD1:∀ {ks:List Nat} {a b:List V} {t:Bool},aAz ks a b=some t→a.length=ks.length∧b.length=ks.length
 | [],a,b,t,h=>by cases a <;> cases b <;> simp [aAz] at h <;> simp
 | k::ks,a,b,t,h=>by
   cases a with
   | nil=>cases b <;> simp [aAz] at h
   | cons x r =>
     cases b with
     | nil=>simp [aAz] at h
     | cons y q =>
       simp only [aAz] at h
       split at h
       ·rename_i u v h1 h2
        obtain ⟨l1,l2⟩:=aD1 h2
        simp [l1,l2]
       ·simp at h
theorem aJp (d k:Nat) {G:Ghost} {D:Nat→Prop} {cs ds:List V} {vs us:Array Value} (hv:RepC G D w cs vs) (hu:RepC G D w ds us)
 (ih:∀ (t:TypeId) (z:List Nat) (ag:Bool) (c e:List V) (X Y:Value) (b:Bool),aCw P d t=some z→aCp P t=some ag→Rep G D w (pack ag c) X→Rep G D w (pack ag e) Y→aAz z c e=some b→(Op.equalIn (d+k) t X Y).run P w=.ok b w) :
 ∀ (fs:List Field) (acc:Nat) (z:List Nat) (b:Bool),acc≤cs.length→acc≤ds.length→aVz P (aCw P d) acc fs=some z→aAz z (cs.drop acc) (ds.drop acc)=some b→(Op.eqFields (d+k) vs us fs).run P w=.ok b w
 | [],acc,z,b,_,_,h,hb=>by
   simp only [aVz,Option.some.injEq] at h
   subst h
   generalize cs.drop acc=p at hb
   generalize ds.drop acc=q at hb
   cases p <;> cases q <;> simp [aAz] at hb
   subst hb
   rfl
 | f::r,acc,z,b,hc1,hc2,h,hb=>by
   simp only [aVz] at h
   split at h
   ·rename_i zf ag h1 h2
    split at h
    ·rename_i hc
     simp only [Bool.and_eq_true,bne_iff_ne,ne_eq,decide_eq_true_eq,Bool.or_eq_true] at hc
     obtain ⟨⟨⟨n1,n2⟩,n3⟩,n4⟩:=hc
     simp only [Option.map_eq_some_iff] at h
     obtain ⟨zr,h,rfl⟩:=h
     obtain ⟨a1,a2,b1,b2,t1,t2,e1,e2,l1,l2,k1,k2,rfl⟩:=aFk hb
     have m1:acc+zf.length≤cs.length:=by
      have:=congrArg List.length e1; simp at this; omega
     have m2:acc+zf.length≤ds.length:=by
      have:=congrArg List.length e2; simp at this; omega
     have l3:(cs.drop acc).take zf.length=a1:=by rw [e1,← l1,List.take_left]
     have l4:(ds.drop acc).take zf.length=b1:=by rw [e2,← l2,List.take_left]
     have l5:cs.drop (acc+zf.length)=a2:=by rw [← List.drop_drop,e1,← l1,List.drop_left]
     have l6:ds.drop (acc+zf.length)=b2:=by rw [← List.drop_drop,e2,← l2,List.drop_left]
     have p1:=aIp (P:=P) (w:=w) (vs:=vs) (off:=acc) n3 h2 n4 (by rw [← hv.1]; exact m1)
     have p2:=aIp (P:=P) (w:=w) (vs:=us) (off:=acc) n3 h2 n4 (by rw [← hu.1]; exact m2)
     have q1:=aH6 (w:=w) hv.1 hv.2 (off:=acc) (z:=zf.length) (ag:=ag) m1 n4
     have q2:=aH6 (w:=w) hu.1 hu.2 (off:=acc) (z:=zf.length) (ag:=ag) m2 n4
     rw [l3] at q1
     rw [l4] at q2
     have e:=ih _ _ _ _ _ _ _ t1 h1 h2 q1 q2 k1
     have rest:=aJp d k hv hu ih r (acc+zf.length) zr t2 m1 m2 h (by rw [l5,l6]; exact k2)
     simp only [Op.eqFields,n1,not_false_eq_true,ne_eq,if_true,Sem.run_bind,n2,p1,p2,Result.andThen_ok,e]
     cases t1
     ·rfl
     ·simp only [Bool.not_true,Bool.false_eq_true,if_false,Bool.true_and]; exact rest
    ·simp at h
   ·simp at h
theorem aH2 {G:Ghost} {D:Nat→Prop}:∀ (d k:Nat) (t:TypeId) (z:List Nat) (ag:Bool) (c e:List V) (X Y:Value) (b:Bool),aCw P d t=some z→aCp P t=some ag→Rep G D w (pack ag c) X→Rep G D w (pack ag e) Y→aAz z c e=some b→(Op.equalIn (d+k) t X Y).run P w=.ok b w
 | 0,k,t,z,ag,c,e,X,Y,b,h,_,_,_,_=>by simp [aCw] at h
 | d+1,k,t,z,ag,c,e,X,Y,b,h,hag,hX,hY,hb=>by
   have one:∀ q,z=[q]→ag=false→∃ x y,aCd q x y=some b∧Rep G D w x X∧Rep G D w y Y:=by
    intro q hz hagf
    subst hz hagf
    obtain ⟨l1,l2⟩:=aD1 hb
    match c,e,l1,l2 with
    | [x],[y],_,_ =>
      simp only [aAz] at hb
      split at hb
      ·rename_i u v h1 h2
       simp only [Option.some.injEq] at h2 hb
       subst h2 hb
       exact ⟨x,y,by simpa using h1,hX,hY⟩
      ·simp at hb
   rw [show d+1+k=(d+k)+1 by omega]
   simp only [aCw] at h
   split at h
   ·rename_i fs hu
    split at h
    ·simp at h
    ·rename_i hst
     have:ag=true:=by simp [aCp,hu] at hag; exact hag
     subst this
     simp only [pack,if_true] at hX hY
     obtain ⟨vs,rfl,v1,v2⟩:=aEx hX
     obtain ⟨us,rfl,u1,u2⟩:=aEx hY
     have hf:P.fieldsOf t=fs:=by simp [Program.fieldsOf,hu]
     rw [run_equalIn_struct w (d+k) t vs us (by rw [hf]; exact hu) (by simpa using hst),hf]
     exact aJp d k (cs:=c) (ds:=e) ⟨v1,v2⟩ ⟨u1,u2⟩ (fun t z ag c e X Y b=>aH2 d k t z ag c e X Y b) fs.toList 0 z b (Nat.zero_le _) (Nat.zero_le _) h (by simpa using hb)
   ·rename_i kk hu
    simp only [Option.some.injEq] at h
    obtain ⟨x,y,hxy,hx,hy⟩:=one _ h.symm (by simp [aCp,hu] at hag; exact hag)
    cases x <;> cases y <;> simp [aCd] at hxy
    obtain ⟨rfl,rfl⟩:=hxy
    obtain rfl:=aA3 hx
    obtain rfl:=aA3 hy
    rw [run_equalIn_int w (d+k) t _ _ _ _ hu,aFi]
   ·rename_i hu
    simp only [Option.some.injEq] at h
    obtain ⟨x,y,hxy,hx,hy⟩:=one _ h.symm (by simp [aCp,hu] at hag; exact hag)
    cases x <;> cases y <;> simp [aCd] at hxy
    subst hxy
    obtain ⟨rfl,_⟩:=aCk hx
    obtain ⟨rfl,_⟩:=aCk hy
    rw [run_equalIn_string w (d+k) t _ _ hu,aLz,aLz,aFi]
   ·rename_i hu
    simp only [Option.some.injEq] at h
    obtain ⟨x,y,hxy,hx,hy⟩:=one _ h.symm (by simp [aCp,hu] at hag; exact hag)
    cases x <;> cases y <;> simp [aCd] at hxy
    subst hxy
    obtain rfl:=aCg hx
    obtain rfl:=aCg hy
    rw [run_equalIn_bool w (d+k) t _ _ hu]
   ·simp at h
theorem bUf (hd:aA4 n o.dst=true) {op:BinOp} {t t':TypeId} {fs:Array Field} {x y:Operand} {x' y':Src} {ks:List Nat} (hx:opd n x=some x') (hy:opd n y=some y') (hop:op=.eql∨op=.neq)
 (hu:P.underlying t=some (.struct fs)) (hk:aCw P 100 t=some ks) (hgd:P.eqGuardType P.depth t=false) (ho:o.op=.binOp op t x y t'):aBe P D n o (.eqA o.dst (op==.neq) ks x' y'):=by
 intro s G a w K next Q h hg hn hfree
 have rx:=aAi hg hx
 have ry:=aAi hg hy
 simp only [aAc] at h
 split at h
 ·rename_i p q hp hq
  rw [hp] at rx
  rw [hq] at ry
  obtain ⟨b,hb,hK⟩:=h
  have hag:aCp P t=some true:=by simp [aCp,hu]
  have e:=aH2 (w:=w) 100 9900 t ks true p q (a.eval x) (a.eval y) b hk hag rx ry hb
  obtain ⟨vs,ex,_⟩:=aEx rx
  obtain ⟨us,ey,_⟩:=aEx ry
  refine aAx hg hd hn (x:=.bool (b != (op==.neq))) (v:=.bool (b != (op==.neq))) ?_ (.bool _) hK
  rw [ex,ey] at e
  simp only [execOp,ho,ex,ey]
  rw [aDl,Sem.run_bind,run_eqGuard_agg w op t x y vs us hgd,Result.andThen_ok,aJm hop e (by simp) (by simp) (by simp) (by simp)]
  rfl
 ·exact h.elim
end
end Go.Ab
