/- Several texts of one kind, merged. No condition. -/
import Derived.Test.YtgdllpgidgiccaaGreatDoorAbM3
import Derived.Test.YtgdllpgidgiccaaGreatDoorAbM6
import Derived.Test.YtgdllpgidgiccaaGreatDoorAbM1
import Derived.Test.YtgdllpgidgiccaaGreatDoorAbM5
set_option linter.unusedSimpArgs false
set_option linter.unusedVariables false
namespace Go.Ab
variable {P:Program} {F T:Nat→Nat}
open Go.Lib
open Go.RowKit
def bMx (P:Program) (f:Nat):Prop:=∀ (b off n c vb voff vc:Nat) (vs:List Value) (w:World),n+1≤c→c≤9223372036854775807→vs.length=3 →
 (∀ j,j<3→(w.cell? ⟨b,off+n*3+j,none⟩).isSome=true)→(∀ j,j<3→w.frozen? ⟨b,off+n*3+j,none⟩=false)→(∀ (j:Nat) v,vs[j]?=some v→w.cell? ⟨vb,voff+j,none⟩=some v)→(∀ v∈vs,v.oneCell'=true) →
 Calls P f #[.slice (some ⟨b,off,none⟩) n c,.int .i64 n,.slice (some ⟨vb,voff,none⟩) 1 vc] w fun e w'=>e=.returned (.slice (some ⟨b,off,none⟩) (n+1) c)∧w'=w.setCells b (off+n*3) vs
def bMq (P:Program) (f ty:Nat) (Z:Array Value):Prop:=∀ (b off n c vb voff vc:Nat) (cs vs:List Value) (w:World),n≤c→c<n+1→(n+1)*40≤140737488355328→cs.length=n*3→vs.length=3 →
 (∀ (j:Nat) v,cs[j]?=some v→w.cell? ⟨b,off+j,none⟩=some v)→(∀ (j:Nat) v,vs[j]?=some v→w.cell? ⟨vb,voff+j,none⟩=some v)→(∀ v∈vs,v.oneCell'=true) →
 Calls P f #[.slice (some ⟨b,off,none⟩) n c,.int .i64 n,.slice (some ⟨vb,voff,none⟩) 1 vc] w fun e w'=>∃ G,n+1≤G∧G<2^63∧e=.returned (.slice (some ⟨w.heap.size,0,none⟩) (n+1) G) ∧
  w'=w.drew.alloc (.cells ((cs++vs).toArray++Builtin.zeroCells Z (G-(n+1))) ty)
def bMv (P:Program) (f:Nat):Prop:=∀ (b off n c i vb voff vc:Nat) (cs vs:List Value) (w:World),i<n→n+1≤c→c≤9223372036854775807→vb≠b→cs.length=n*3→vs.length=3 →
 (∀ (j:Nat) v,cs[j]?=some v→w.cell? ⟨b,off+j,none⟩=some v)→(∀ j,j<(n+1)*3→(w.cell? ⟨b,off+j,none⟩).isSome=true)→(∀ j,j<(n+1)*3→w.frozen? ⟨b,off+j,none⟩=false) →
 (∀ (j:Nat) v,vs[j]?=some v→w.cell? ⟨vb,voff+j,none⟩=some v)→(∀ v∈cs,v.oneCell'=true)→(∀ v∈vs,v.oneCell'=true) →
 ∀ (tA tB:TypeId) (kA kB:Nat),w.shape? vb=some (tA,kA)→w.shape? b=some (tB,kB)→kA≠0→kB≠0→w.frozen? ⟨b,kB,none⟩=false →
 Calls P f #[.slice (some ⟨b,off,none⟩) n c,.int .i64 i,.slice (some ⟨vb,voff,none⟩) 1 vc] w fun e w'=>e=.returned (.slice (some ⟨b,off,none⟩) (n+1) c)∧w'=(w.drew.setCells b (off+(i+1)*3) (cs.drop (i*3))).setCells b (off+i*3) vs
def bOh (P:Program) (f ty:Nat) (Z:Array Value):Prop:=∀ (b off n c i vb voff vc:Nat) (cs vs:List Value) (w:World),i<n→n≤c→c<n+1→(n+1)*40≤140737488355328→cs.length=n*3→vs.length=3 →
 (∀ (j:Nat) v,cs[j]?=some v→w.cell? ⟨b,off+j,none⟩=some v)→(∀ (j:Nat) v,vs[j]?=some v→w.cell? ⟨vb,voff+j,none⟩=some v)→(∀ v∈cs,v.oneCell'=true)→(∀ v∈vs,v.oneCell'=true) →
 Calls P f #[.slice (some ⟨b,off,none⟩) n c,.int .i64 i,.slice (some ⟨vb,voff,none⟩) 1 vc] w fun e w'=>∃ G,n+1≤G∧G<2^63∧e=.returned (.slice (some ⟨w.heap.size,0,none⟩) (n+1) G) ∧
  w'=(((w.alloc (.cells ((cs.take (i*3)).toArray++Builtin.zeroCells Z (n+1-i)++Builtin.zeroCells Z (G-(n+1))) ty)).drew.setCells w.heap.size (i*3) vs).drew).setCells w.heap.size ((i+1)*3) (cs.drop (i*3))
def insL (cs vs:List Value) (i:Nat):List Value:=cs.take (i*3)++(vs++cs.drop (i*3))
theorem aGq {cs vs:List Value} {i n t:Nat} (hc:cs.length=n*3) (hv:vs.length=3) (hi:i≤n):(insL cs vs i).getD t undef=if t<i*3 then cs.getD t undef else if t<i*3+3 then vs.getD (t-i*3) undef else cs.getD (t-3) undef:=by
 have h1:(cs.take (i*3)).length=i*3:=by rw [List.length_take]; omega
 unfold insL
 simp only [List.getD_eq_getElem?_getD]
 by_cases a:t<i*3
 ·rw [if_pos a,List.getElem?_append_left (by omega),List.getElem?_take,if_pos a]
 ·rw [if_neg a,List.getElem?_append_right (by omega),h1]
  by_cases b:t<i*3+3
  ·rw [if_pos b,List.getElem?_append_left (by omega)]
  ·rw [if_neg b,List.getElem?_append_right (by omega),List.getElem?_drop,hv]
   congr 2
   omega
theorem aQ5 {R:V→Value→Prop} {us:List Un} {u:Un} {i:Nat} {cs vs:List Value} {c':Array Value} {base:Nat} (hi:i≤us.length) (hc:cs.length=us.length*3) (hv:vs.length=3)
 (hcR:∀ (k j:Nat) x,(((us.map Un.v)[k]?).bind fun e=>e.cells[j]?)=some x→R x (cs.getD (k*3+j) undef)) (hvR:∀ (j:Nat) x,u.v.cells[j]?=some x→R x (vs.getD j undef))
 (hp:∀ t,t<(us.length+1)*3→c'.getD (base+t) undef=(insL cs vs i).getD t undef) :
 ∀ (k j:Nat) x,((((insU us i u).map Un.v)[k]?).bind fun e=>e.cells[j]?)=some x→R x (c'.getD (base+k*3+j) undef):=by
 intro k j x hx
 have hz:∀ e,e∈(insU us i u).map Un.v→e.ncells=some 3:=fun e he=>by
  obtain ⟨v,_,rfl⟩:=List.mem_map.1 he
  rfl
 obtain ⟨hk,hj⟩:=aJ1 hz hx
 have hil:(insU us i u).length=us.length+1:=by unfold insU; simp; omega
 rw [List.length_map,hil] at hk
 rw [Nat.add_assoc,hp (k*3+j) (by omega),aGq hc hv hi]
 have hm:(insU us i u).map Un.v=(us.map Un.v).take i++u.v::(us.map Un.v).drop i:=by unfold insU; simp [List.map_take,List.map_drop]
 have htl:((us.map Un.v).take i).length=i:=by rw [List.length_take,List.length_map]; omega
 rw [hm] at hx
 rcases Nat.lt_trichotomy k i with a | a | a
 ·rw [List.getElem?_append_left (by omega),List.getElem?_take,if_pos a] at hx
  rw [if_pos (by omega)]
  exact hcR k j x hx
 ·subst a
  rw [List.getElem?_append_right (by omega),htl,Nat.sub_self,List.getElem?_cons_zero,Option.bind_some] at hx
  rw [if_neg (by omega),if_pos (by omega),show k*3+j-k*3=j by omega]
  exact hvR j x hx
 ·obtain ⟨k',rfl⟩:∃ k',k=k'+1:=⟨k-1,by omega⟩
  rw [List.getElem?_append_right (by omega),htl,show k'+1-i=(k'-i)+1 by omega,List.getElem?_cons_succ,List.getElem?_drop,show i+(k'-i)=k' by omega] at hx
  rw [if_neg (by omega),if_neg (by omega),show (k'+1)*3+j-3=k'*3+j by omega]
  exact hcR k' j x hx
theorem aHo (Z:Array Value) (k:Nat):(Builtin.zeroCells Z k).size=k*Z.size:=by simp [Builtin.zeroCells]
theorem aKw {G:Ghost} {D:Nat→Prop} {w:World} {s:List UInt8} {v:Value} (h:Rep G D w (.str s) v):v.oneCell'=true:=by cases h; rfl
theorem aU1 {G:Ghost} {D:Nat→Prop} {w:World} {k:IntKind} {n:Int} {v:Value} (h:Rep G D w (.int k n) v):v.oneCell'=true:=by cases h; rfl
theorem aVn {w:World} {b q:Nat} (h:(w.cell? ⟨b,q,none⟩).isSome=true):∃ t k,w.shape? b=some (t,k)∧k≠0:=by
 unfold World.cell? at h
 unfold World.shape?
 simp only at h
 split at h
 ·rename_i c ty fr hb
  refine ⟨_,_,rfl,?_⟩
  intro h0
  simp only [Option.isSome_none,Bool.false_eq_true,if_false] at h
  rw [Array.getElem?_eq_none (by omega)] at h
  cases h
 ·cases h
theorem aZp {l:List Value} {n:Nat} {f:Nat→Value} (hl:l=(List.range n).map f):l.length=n∧(∀ t,t<n→l.getD t undef=f t)∧(∀ (j:Nat) v,l[j]?=some v→j<n∧v=f j):=by
 subst hl
 refine ⟨by simp,fun t ht=>by simp [List.getD,ht],fun j v hj=>?_⟩
 have hjl:j<n:=by
  have:=(List.getElem?_eq_some_iff.1 hj).1
  simpa using this
 refine ⟨hjl,?_⟩
 rw [List.getElem?_map,List.getElem?_range hjl] at hj
 simpa using hj.symm
theorem Hp.good0 {D:Nat→Prop} {L:Heap} {nx:Nat} {G:Ghost} {w:World} (h:Hp P D 0 ⟨fun _=>.junk,L,nx⟩ G w):Good P D 0 ⟨fun _=>.junk,L,nx⟩ G ⟨#[],[]⟩ w:=⟨rfl,rfl,fun i=>.junk _,h⟩
theorem bHa {Z:Array Value} (hZ:Z.size=3) (h1:bMx P (F 265)) (h2:bMq P (F 265) (T 28) Z) (h3:bMv P (F 265)) (h4:bOh P (F 265) (T 28) Z):InsC P F T:=by
 intro us i u id nx L hL h0 hi hn hid
 have hln:=aEu us
 have hil:(insU us i u).length=us.length+1:=by unfold insU; simp; omega
 refine ⟨⟨.own nx 3 0 (us.length+1),upd (upd L id none) nx (some (.vec (T 28) 3 ((insU us i u).map Un.v))),nx+1,nx,rfl,aAf _ _ _,.inr (Nat.le_refl _),by omega,by omega,fun x hx hne=>by rw [aAd _ _ _ _ (by omega),aAd _ _ _ _ hne]⟩,fun D G w vs hp hsz hr=>?_⟩
 obtain ⟨g,hG,ok⟩:=hp.blk id _ hL
 obtain ⟨z1,z2,z3,z4,z5⟩:=ok
 rw [hln] at z2
 have hcap:0<g.cap:=by omega
 obtain ⟨c,ty,fr,k1,⟨k2,rfl⟩,k3,k4⟩:=z5 hcap
 have r0:=hr 0 _ rfl
 have r1:=hr 1 _ rfl
 have r2:=hr 2 _ rfl
 obtain ⟨g',a,cap,e0,q1,q2,q3,q4,q5,q6⟩:=aEp r0
 obtain rfl:g=g':=Option.some.inj (hG.symm.trans q1)
 have ha:=q6 (by omega)
 rw [Nat.zero_mul,Nat.add_zero] at ha
 subst ha
 obtain ⟨a2,cap2,vb,vq,e2,m1,m2,m3,m4,m5,m6⟩:=aGh r2
 obtain ⟨rfl,hvb,hnd⟩:=m3 (by simp)
 have e1:vs.getD 1 undef=.int .i64 i:=by
  generalize vs.getD 1 undef=x at r1
  cases r1
  rfl
 have hvs:vs=#[.slice (some ⟨g.blk,g.off,none⟩) us.length cap,.int .i64 i,.slice (some ⟨vb,vq,none⟩) 1 cap2]:=by
  have hz:vs.size=3:=by simpa using hsz.symm
  refine Array.ext (by simp [hz]) fun j h1 h2=>?_
  have hj:j=0∨j=1∨j=2:=by omega
  rcases hj with rfl | rfl | rfl
  ·rw [Array.getD_eq_getD_getElem?,Array.getElem?_eq_getElem h1] at e0; simpa using e0
  ·rw [Array.getD_eq_getD_getElem?,Array.getElem?_eq_getElem h1] at e1; simpa using e1
  ·rw [Array.getD_eq_getD_getElem?,Array.getElem?_eq_getElem h1] at e2; simpa using e2
 subst hvs
 have hown:Own L G g.blk:=⟨id,_,g,hL,hG,⟨hcap,rfl⟩⟩
 have hvne:vb≠g.blk:=fun e=>hnd (.inr (by rw [e]; exact hown))
 have hlt:g.blk<w.heap.size:=(Array.getElem?_eq_some_iff.1 k1).1
 obtain ⟨cs,hcs⟩:∃ cs,cs=(List.range (us.length*3)).map fun t=>c.getD (g.off+t) undef:=⟨_,rfl⟩
 obtain ⟨cl,cg,ce⟩:=aZp hcs
 obtain ⟨vl,hvl⟩:∃ vl,vl=(List.range 3).map fun t=>aEq w vb (vq+t):=⟨_,rfl⟩
 obtain ⟨vl1,vg,ve⟩:=aZp hvl
 have hcR:∀ (k j:Nat) x,(((us.map Un.v)[k]?).bind fun e=>e.cells[j]?)=some x→Rep G (Dp D L G) w x (cs.getD (k*3+j) undef):=fun k j x hx=>by
  obtain ⟨b1,b2⟩:=aJ1 z4 hx
  rw [hln] at b1
  rw [cg _ (by omega),← Nat.add_assoc]
  exact k4 k j x hx
 have hvR:∀ (j:Nat) x,u.v.cells[j]?=some x→Rep G (Dp D L G) w x (vl.getD j undef):=fun j x hx=>by
  have hj:j<3:=by
   have:=(List.getElem?_eq_some_iff.1 hx).1
   simpa [Un.v,V.cells] using this
  rw [vg _ hj]
  have:=m6 0 j x (by simpa using hx)
  rwa [show vq+0*3+j=vq+j by omega] at this
 have hcsz:g.off+us.length*3≤c.size:=by
  have:us.length*3≤g.cap*3:=Nat.mul_le_mul_right _ z2
  omega
 have x1:∀ (j:Nat) v,cs[j]?=some v→w.cell? ⟨g.blk,g.off+j,none⟩=some v:=fun j v hj=>by
  obtain ⟨hj1,rfl⟩:=ce j v hj
  rw [aA4 k1,Array.getD_eq_getD_getElem?,Array.getElem?_eq_getElem (by omega)]
  rfl
 have x2:∀ (j:Nat) v,vl[j]?=some v→w.cell? ⟨vb,vq+j,none⟩=some v:=fun j v hj=>by
  obtain ⟨hj1,rfl⟩:=ve j v hj
  have hs:=m5 0 j (u.v.cells.getD j .junk) (by
   have:j<u.v.cells.length:=by simpa [Un.v,V.cells] using hj1
   simp [List.getD,this])
  rw [show vq+0*3+j=vq+j by omega] at hs
  obtain ⟨y,hy⟩:=Option.isSome_iff_exists.1 hs
  rw [aEq,hy]
  rfl
 have x3:∀ v,v∈cs→v.oneCell'=true:=fun v hv=>by
  obtain ⟨j,hj,rfl⟩:=List.mem_iff_getElem.1 hv
  rw [cl] at hj
  have hk:j / 3<us.length:=by omega
  have hj3:j=(j / 3)*3+j % 3:=by omega
  have hx:∀ x,(us[j / 3]).v.cells[j % 3]?=some x→Rep G (Dp D L G) w x (cs.getD j undef):=fun x hx=>by
   have:=hcR (j / 3) (j % 3) x (by simp [hk]; exact hx)
   rwa [← hj3] at this
  have hg:cs.getD j undef=cs[j]:=by simp [List.getD,show j<cs.length by omega]
  rw [hg] at hx
  have hm:j % 3=0∨j % 3=1∨j % 3=2:=by omega
  rcases hm with e | e | e
  ·exact aKw (hx (.str us[j / 3].title) (by rw [e]; rfl))
  ·exact aU1 (hx (.int .i64 us[j / 3].nth) (by rw [e]; rfl))
  ·exact aKw (hx (.str us[j / 3].text) (by rw [e]; rfl))
 have x4:∀ v,v∈vl→v.oneCell'=true:=fun v hv=>by
  obtain ⟨j,hj,rfl⟩:=List.mem_iff_getElem.1 hv
  rw [vl1] at hj
  have hg:vl.getD j undef=vl[j]:=by simp [List.getD,show j<vl.length by omega]
  have hm:j=0∨j=1∨j=2:=by omega
  rw [← hg]
  rcases hm with rfl | rfl | rfl
  ·exact aKw (hvR 0 (.str u.title) rfl)
  ·exact aU1 (hvR 1 (.int .i64 u.nth) rfl)
  ·exact aKw (hvR 2 (.str u.text) rfl)
 have x5:∀ t,t<g.cap*3→(w.cell? ⟨g.blk,g.off+t,none⟩).isSome=true:=fun t ht=>by
  rw [aA4 k1,Array.getElem?_eq_getElem (by omega)]
  rfl
 have x6:∀ t,t<g.cap*3→w.frozen? ⟨g.blk,g.off+t,none⟩=false:=fun t ht=>by
  have:=k3 t ht
  simp only [World.frozen?,k1]
  simpa using this
 have x7:w.shape? g.blk=some (T 28,c.size):=by simp [World.shape?,k1]
 have x8:w.frozen? ⟨g.blk,c.size,none⟩=false:=by
  have:=k3.un (by decide)
  simp only [World.frozen?,k1]
  simpa using this
 obtain ⟨tA,kA,x9,x10⟩:=aVn (m5 0 0 (.str u.title) rfl)
 have hc0:c.size≠0:=by omega
 have hq4:cap=g.cap:=by omega
 subst hq4
 have hncell:∀ e,e∈(insU us i u).map Un.v→e.ncells=some 3:=fun e he=>by
  obtain ⟨v,_,rfl⟩:=List.mem_map.1 he
  rfl
 -- in place
 have finA:∀ (w':World) (c':Array Value),w'.heap[g.blk]?=some (.cells c' (T 28) fr)→c'.size=c.size→(∀ x,x≠g.blk→w'.heap[x]?=w.heap[x]?)→w'.heap.size=w.heap.size→w'.os=w.os→w'.tape=w.tape→w'.output=w.output→us.length+1≤g.cap →
  (∀ t,t<(us.length+1)*3→c'.getD (g.off+t) undef=(insL cs vl i).getD t undef) →
  ∃ v r L' nx' G',Ending.returned (.slice (some ⟨g.blk,g.off,none⟩) (us.length+1) g.cap)=Ending.returned v ∧
    (∃ id',r=V.own id' 3 0 (us.length+1)∧L' id'=some (Blk.vec (T 28) 3 (List.map Un.v (insU us i u)))∧(id'=id∨nx≤id')∧id'<nx'∧nx≤nx'∧∀ (x:Nat),x<nx→x≠id→L' x=L x) ∧
    Hp P D 0 ⟨fun _=>.junk,L',nx'⟩ G' w'∧nx≤nx'∧Nxt L G w L' G' w'∧Rep G' (Dp D L' G') w' r v:=by
  intro w' c' y1 y2 y3 y4 y5 y6 y7 y8 y9
  obtain ⟨g1,g2⟩:=hp.good0.turnBlk (b':=.vec (T 28) 3 ((insU us i u).map Un.v)) hL hG (fun x=>Iff.rfl) (fun x h=>h.2) y3 ⟨hcap,rfl⟩ y4 y5 y6 y7 fun G' D' hm=>by
   refine ⟨z1,by rw [List.length_map,hil]; exact y8,z3,hncell,fun _=>⟨c',_,fr,y1,⟨by rw [y2]; exact k2,rfl⟩,by rw [y2]; exact k3,?_⟩⟩
   exact aQ5 (R:=fun x v=>Rep G' D' w' x v) hi cl vl1 (fun k j x hx=>hm _ _ (hcR k j x hx)) (fun j x hx=>hm _ _ (hvR j x hx)) y9
  refine ⟨_,.own id 3 0 (us.length+1),_,nx,G,rfl,⟨id,rfl,aAf _ _ _,.inl rfl,hid,Nat.le_refl _,fun x hx hne=>aAd _ _ _ _ hne⟩,g1.hp.congr rfl rfl,Nat.le_refl _,g2,?_⟩
  exact .own id 3 0 _ g _ _ hG z1 y8 (by omega) z3 (fun _=>by simp)
 -- a new block
 have finB:∀ (w':World) (c':Array Value) (cp:Nat),w'.heap[w.heap.size]?=some (.cells c' (T 28) (0,0))→cp*3≤c'.size→us.length+1≤cp→cp<2^63→Below w.heap.size w w'→w'.heap.size=w.heap.size+1 →
  (∀ t,t<(us.length+1)*3→c'.getD (0+t) undef=(insL cs vl i).getD t undef) →
  ∃ v r L' nx' G',Ending.returned (.slice (some ⟨w.heap.size,0,none⟩) (us.length+1) cp)=Ending.returned v ∧
    (∃ id',r=V.own id' 3 0 (us.length+1)∧L' id'=some (Blk.vec (T 28) 3 (List.map Un.v (insU us i u)))∧(id'=id∨nx≤id')∧id'<nx'∧nx≤nx'∧∀ (x:Nat),x<nx→x≠id→L' x=L x) ∧
    Hp P D 0 ⟨fun _=>.junk,L',nx'⟩ G' w'∧nx≤nx'∧Nxt L G w L' G' w'∧Rep G' (Dp D L' G') w' r v:=by
  intro w' c' cp y1 y2 y3 y4 y5 y6 y9
  obtain ⟨gd,xd⟩:=hp.goodN.drop id
  obtain ⟨g1,g2⟩:=gd.newBlk (w':=w') y5 (id:=nx) (hp.fin nx (by simp)) (by simp [St.drop]) (.vec (T 28) 3 ((insU us i u).map Un.v)) ⟨w.heap.size,0,cp,3,0⟩
   (fun x hx=>by
    obtain ⟨_,rfl⟩:=hx
    exact ⟨Nat.le_refl _,by show w.heap.size<w'.heap.size; omega⟩)
   (fun G' D' hm=>by
    have hk:∀ x v,Rep G (Dp D L G) w x v→Rep G' D' w' x v:=fun x v hx=>hm _ _ (xd.rep hx)
    refine ⟨rfl,by rw [List.length_map,hil]; exact y3,y4,hncell,fun _=>⟨c',_,_,y1,⟨by show 0+cp*3≤_; omega,rfl⟩,⟨fun i _=>by simp,fun _=>by simp⟩,?_⟩⟩
    exact aQ5 (R:=fun x v=>Rep G' D' w' x v) hi cl vl1 (fun k j x hx=>hk _ _ (hcR k j x hx)) (fun j x hx=>hk _ _ (hvR j x hx)) y9)
  refine ⟨_,.own nx 3 0 (us.length+1),_,nx+1,_,rfl,⟨nx,rfl,aAf _ _ _,.inr (Nat.le_refl _),by omega,by omega,fun x hx hne=>by
   show upd (upd L id none) nx _ x=L x
   rw [aAd _ _ _ _ (by omega),aAd _ _ _ _ hne]⟩,⟨fun id hid=>?_,g1.hp.blk,g1.hp.apart,g1.hp.away,g1.hp.dlt,g1.hp.gl⟩,Nat.le_succ _,xd.trans g2,?_⟩
  ·exact g1.hp.fin id hid
  ·exact .own nx 3 0 _ ⟨w.heap.size,0,cp,3,0⟩ _ _ (aAf _ _ _) rfl y3 (by simp) y4 (fun _=>by simp)
 have hap:(cs.take (i*3)).length=i*3:=by rw [List.length_take]; omega
 have gc:∀ t,t<us.length*3→c.getD (g.off+t) undef=cs.getD t undef:=fun t ht=>(cg t ht).symm
 by_cases hroom:us.length+1≤g.cap
 ·have hr3:(us.length+1)*3≤g.cap*3:=Nat.mul_le_mul_right _ hroom
  by_cases hin:i=us.length
  ·subst hin
   refine (h1 g.blk g.off us.length g.cap vb vq cap2 vl w hroom (by omega) vl1 (fun j hj=>by rw [Nat.add_assoc]; exact x5 _ (by omega)) (fun j hj=>by rw [Nat.add_assoc]; exact x6 _ (by omega)) x2 x4).mono ?_
   rintro e w' ⟨rfl,rfl⟩
   obtain ⟨s1,s2,s3,s4,s5,s6⟩:=aBu g.blk vl (g.off+us.length*3) w k1
   obtain ⟨p1,p2⟩:=aDo vl c (g.off+us.length*3) (by omega)
   refine finA _ _ s1 p1 s2 s3 s4 s5 s6 hroom fun t ht=>?_
   rw [p2,aGq cl vl1 (Nat.le_refl _)]
   by_cases a:t<us.length*3
   ·rw [if_neg (by omega),if_pos a]; exact gc t a
   ·rw [if_pos (by omega),if_neg a,if_pos (by omega)]
    congr 1
    omega
  ·refine (h3 g.blk g.off us.length g.cap i vb vq cap2 cs vl w (by omega) hroom (by omega) hvne cl vl1 x1 (fun j hj=>x5 _ (by omega)) (fun j hj=>x6 _ (by omega)) x2 x3 x4 tA (T 28) kA c.size x9 x7 x10 hc0 x8).mono ?_
   rintro e w' ⟨rfl,rfl⟩
   have hdl:(cs.drop (i*3)).length=(us.length-i)*3:=by rw [List.length_drop,cl]; omega
   obtain ⟨s1,s2,s3,s4,s5,s6⟩:=aBu g.blk (cs.drop (i*3)) (g.off+(i+1)*3) w.drew (c:=c) (ty:=T 28) (fr:=fr) k1
   obtain ⟨p1,p2⟩:=aDo (cs.drop (i*3)) c (g.off+(i+1)*3) (by omega)
   obtain ⟨t1,t2,t3,t4,t5,t6⟩:=aBu g.blk vl (g.off+i*3) _ s1
   obtain ⟨o1,o2⟩:=aDo vl (putL c (g.off+(i+1)*3) (cs.drop (i*3))) (g.off+i*3) (by omega)
   refine finA _ _ t1 (o1.trans p1) (fun x hx=>(t2 x hx).trans (s2 x hx)) (t3.trans s3) (t4.trans s4) (t5.trans s5) (t6.trans s6) hroom fun t ht=>?_
   rw [o2,aGq cl vl1 hi]
   by_cases a:t<i*3
   ·rw [if_neg (by omega),if_pos a,p2,if_neg (by omega)]; exact gc t (by omega)
   ·by_cases b:t<i*3+3
    ·rw [if_pos (by omega),if_neg a,if_pos b]
     congr 1
     omega
    ·rw [if_neg (by omega),if_neg a,if_neg b,p2,if_pos (by omega)]
     rw [List.getD_eq_getElem?_getD,List.getElem?_drop,← List.getD_eq_getElem?_getD]
     congr 1
     omega
 ·by_cases hin:i=us.length
  ·subst hin
   refine (h2 g.blk g.off us.length g.cap vb vq cap2 cs vl w z2 (by omega) (by omega) cl vl1 x1 x2 x4).mono ?_
   rintro e w' ⟨cp,b1,b2,rfl,rfl⟩
   refine finB _ _ cp (aAz ..) ?_ b1 b2 ?_ (aB7 ..) fun t ht=>?_
   ·simp only [Array.size_append,aHo,hZ,List.size_toArray,List.length_append,cl,vl1]
    omega
   ·exact ⟨rfl,rfl,rfl,by show w.heap.size≤(w.heap.push _).size; simp,fun k hk=>heap_alloc_old _ _ hk⟩
   ·rw [Nat.zero_add,aGq cl vl1 (Nat.le_refl _)]
    simp only [Array.getD_eq_getD_getElem?,List.getD_eq_getElem?_getD]
    rw [Array.getElem?_append_left (by simp only [List.size_toArray,List.length_append,cl,vl1]; omega),List.getElem?_toArray]
    by_cases a:t<us.length*3
    ·rw [if_pos a,List.getElem?_append_left (by omega)]
    ·rw [if_neg a,if_pos (by omega),List.getElem?_append_right (by omega),cl]
  ·refine (h4 g.blk g.off us.length g.cap i vb vq cap2 cs vl w (by omega) z2 (by omega) (by omega) cl vl1 x1 x2 x3 x4).mono ?_
   rintro e w' ⟨cp,b1,b2,rfl,rfl⟩
   have hdl:(cs.drop (i*3)).length=(us.length-i)*3:=by rw [List.length_drop,cl]; omega
   obtain ⟨ROW,hROW⟩:∃ R:Array Value,R=(List.take (i*3) cs).toArray++Builtin.zeroCells Z (us.length+1-i)++Builtin.zeroCells Z (cp-(us.length+1)):=⟨_,rfl⟩
   rw [← hROW]
   have hRs:ROW.size=cp*3:=by
    rw [hROW]
    simp only [Array.size_append,aHo,hZ,List.size_toArray,hap]
    omega
   have hRg:∀ t,t<i*3→ROW.getD t undef=cs.getD t undef:=fun t ht=>by
    rw [hROW]
    simp only [Array.getD_eq_getD_getElem?,List.getD_eq_getElem?_getD]
    rw [Array.getElem?_append_left (by simp only [Array.size_append,List.size_toArray,hap]; omega),Array.getElem?_append_left (by simp only [List.size_toArray,hap]; omega),List.getElem?_toArray,List.getElem?_take,if_pos ht]
   obtain ⟨s1,s2,s3,s4,s5,s6⟩:=aBu w.heap.size vl (i*3) (w.alloc (.cells ROW (T 28))).drew (c:=ROW) (ty:=T 28) (fr:=(0,0)) (aAz ..)
   obtain ⟨p1,p2⟩:=aDo vl ROW (i*3) (by omega)
   obtain ⟨t1,t2,t3,t4,t5,t6⟩:=aBu w.heap.size (cs.drop (i*3)) ((i+1)*3) ((w.alloc (.cells ROW (T 28))).drew.setCells w.heap.size (i*3) vl).drew (c:=putL ROW (i*3) vl) (ty:=T 28) (fr:=(0,0)) s1
   obtain ⟨o1,o2⟩:=aDo (cs.drop (i*3)) (putL ROW (i*3) vl) ((i+1)*3) (by omega)
   have hsz':(w.alloc (.cells ROW (T 28))).heap.size=w.heap.size+1:=aB7 ..
   refine finB _ _ cp t1 (by rw [o1,p1,hRs]; exact Nat.le_refl _) b1 b2 ⟨t4.trans s4,t5.trans s5,t6.trans s6,?_,fun k hk=>?_⟩ ?_ fun t ht=>?_
   ·have e1:=t3
    have e2:=s3
    show w.heap.size≤_
    rw [e1]
    show w.heap.size≤((w.alloc (.cells ROW (T 28))).drew.setCells w.heap.size (i*3) vl).heap.size
    rw [e2]
    show w.heap.size≤(w.alloc (.cells ROW (T 28))).heap.size
    omega
   ·rw [t2 k (by omega)]
    show ((w.alloc (.cells ROW (T 28))).drew.setCells w.heap.size (i*3) vl).heap[k]?=_
    rw [s2 k (by omega)]
    exact heap_alloc_old _ _ hk
   ·rw [t3]
    show ((w.alloc (.cells ROW (T 28))).drew.setCells w.heap.size (i*3) vl).heap.size=_
    rw [s3]
    exact hsz'
   ·rw [Nat.zero_add,o2,aGq cl vl1 hi]
    by_cases a:t<i*3
    ·rw [if_neg (by omega),if_pos a,p2,if_neg (by omega)]
     exact hRg t a
    ·by_cases b:t<i*3+3
     ·rw [if_neg (by omega),if_neg a,if_pos b,p2,if_pos (by omega)]
     ·rw [if_pos (by omega),if_neg a,if_neg b,List.getD_eq_getElem?_getD,List.getElem?_drop,← List.getD_eq_getElem?_getD]
      congr 1
      omega
end Go.Ab
namespace Go.Ab
theorem aIt:∀ (r out:List Un) (prev:List UInt8×Nat) (n:List UInt8×Nat),hasU (ordG out prev r) n=(hasU out n||hasU r n)
 | [],out,prev,n=>by simp [ordG,hasU]
 | u::r,out,prev,n=>by
   have h1:hasU (u::r) n=(decide (u.nm=n)||hasU r n):=by unfold hasU; rw [List.any_cons]
   rw [ordG,aIt r,h1]
   by_cases hh:hasU out u.nm=true
   ·rw [if_pos hh]
    by_cases e:u.nm=n
    ·rw [← e,hh]; simp
    ·simp [e]
   ·rw [if_neg hh]
    have:=aNx out (atU out prev+1) u n
    unfold insU at this
    rw [this]
    cases decide (u.nm=n) <;> cases hasU out n <;> simp
theorem aNa {α:Type} [DecidableEq α] (p:α→Bool):∀ {l m:List α},l.Nodup→m.Nodup→(∀ a,a∈l↔a∈m)→(l.filter p).length=(m.filter p).length
 | [],m,_,_,h=>by
   have:m=[]:=List.eq_nil_iff_forall_not_mem.2 fun a ha=>by have:=(h a).2 ha; cases this
   rw [this]
 | a::l,m,hl,hm,h=>by
   have ha:a∈m:=(h a).1 (by simp)
   rw [List.nodup_cons] at hl
   have hp:m.Perm (a::m.erase a):=List.perm_cons_erase ha
   have hme:(m.erase a).Nodup:=hm.erase a
   have ih:=aNa p (l:=l) (m:=m.erase a) hl.2 hme (fun b=>by
    constructor
    ·intro hb
     have hne:b≠a:=fun e=>hl.1 (e ▸ hb)
     exact (List.mem_erase_of_ne hne).2 ((h b).1 (by simp [hb]))
    ·intro hb
     have hb2:b∈m:=List.mem_of_mem_erase hb
     have hne:b≠a:=fun e=>by
      subst e
      have:=hp.nodup_iff.1 hm
      rw [List.nodup_cons] at this
      exact this.1 hb
     rcases List.mem_cons.1 ((h b).2 hb2) with e | e
     ·exact absurd e hne
     ·exact e)
   have:=(hp.filter p).length_eq
   rw [this,List.filter_cons,List.filter_cons]
   split <;> simp [ih]
theorem aWl (b o t:Option (List UInt8)):(aB6 b o t).2=(aB6 b t o).2:=by
 unfold aB6
 by_cases h1:o=t
 ·simp [h1]
 ·have h1':¬ t=o:=fun e=>h1 e.symm
  by_cases h2:o=b
  ·by_cases h3:t=b
   ·simp [h2,h3]
   ·subst h2; simp [h1,h1']
  ·by_cases h3:t=b
   ·subst h3; simp [h1,h1',h2]
   ·simp only [h1,h1',h2,h3,if_false]
    split <;> split <;> rfl
theorem bH7 (x y:List UInt8) (n:List UInt8×Nat):n∈(aCk (aAc x) (aAc y)).map Un.nm↔n∈(aCk (aAc y) (aAc x)).map Un.nm:=by
 rw [← aGa,← aGa,aCk,aCk,aIt,aIt,Bool.or_comm]
theorem aRm (x y:List UInt8):((aCk (aAc x) (aAc y)).map Un.nm).Nodup:=(aD9 (aAc y) (aAc x) ([],0) (List.pairwise_map.2 (aD6 x))).1
theorem bAs (b x y:List UInt8):(aCy b x y).2.length=(aCy b y x).2.length:=by
 unfold aCy
 by_cases h1:x=y
 ·subst h1; simp
 have h1':¬ y=x:=fun e=>h1 e.symm
 by_cases h2:x=b
 ·subst h2
  rw [if_pos (.inl rfl),if_neg (by simp [h1']),if_pos rfl]
 by_cases h3:y=b
 ·subst h3
  rw [if_neg (by simp [h1,h2]),if_pos rfl,if_pos (.inl rfl)]
 rw [if_neg (by simp [h1,h2]),if_neg h3,if_neg (by simp [h1',h3]),if_neg h2]
 simp only [aRf,aP2,List.length_map]
 rw [aNa _ (aRm x y) (aRm y x) (bH7 x y)]
 congr 1
 apply List.filter_congr
 intro n _
 exact aWl _ _ _
theorem aPn:∀ (s:List UInt8),aCj s<s.length→s[aCj s]?=some 10
 | [],h=>by simp at h
 | x::r,h=>by
   by_cases e:x=10
   ·subst e; simp [aCj]
   ·have hl:aCj (x::r)=aCj r+1:=by rw [aCj,if_neg e]
    rw [hl] at h ⊢
    rw [List.getElem?_cons_succ]
    exact aPn r (by simp at h; omega)
theorem aTy (s:List UInt8) (p:List Bool):∀ (n i:Nat),(rawF s p n i).length≤(s.drop i).count 10+(if i<s.length then 1 else 0)
 | 0,i=>by simp [rawF]
 | n+1,i=>by
   rw [rawF]
   by_cases h:i<s.length
   ·rw [if_pos h,if_pos h,List.length_append]
    have h1:(aDc s p i).length≤1:=by
     unfold aDc
     split
     ·split <;> simp
     ·simp
    have ih:=aTy s p n (min (aBi s i+1) s.length)
    obtain ⟨e1,e2⟩:=aEb (s:=s) (i:=i) (by omega)
    by_cases hl:aBi s i<s.length
    ·rw [show min (aBi s i+1) s.length=aBi s i+1 by omega] at ih ⊢
     have hc:(s.drop (aBi s i+1)).count 10+1≤(s.drop i).count 10:=by
      have h10:s[aBi s i]=10:=by
       have:=aPn (s.drop i) (by rw [List.length_drop]; unfold aBi at hl; omega)
       rw [List.getElem?_drop] at this
       have e:i+aCj (s.drop i)=aBi s i:=rfl
       rw [e,List.getElem?_eq_getElem hl] at this
       exact Option.some.inj this
      have hd:s.drop (aBi s i)=s[aBi s i]::s.drop (aBi s i+1):=List.drop_eq_getElem_cons hl
      have h2:(s.drop (aBi s i)).count 10=(s.drop (aBi s i+1)).count 10+1:=by rw [hd,h10]; simp
      have h3:(s.drop (aBi s i)).count 10≤(s.drop i).count 10:=by
       have:s.drop (aBi s i)=(s.drop i).drop (aBi s i-i):=by rw [List.drop_drop]; congr 1; omega
       rw [this]
       exact (List.drop_sublist _ _).count_le 10
      omega
     have:(if aBi s i+1<s.length then 1 else 0)≤1:=by split <;> omega
     omega
    ·rw [show min (aBi s i+1) s.length=s.length by omega] at ih ⊢
     rw [if_neg (by omega),List.drop_length] at ih
     simp at ih
     simp [ih]
     omega
   ·rw [if_neg h]; simp
theorem bFl (s:List UInt8):(aEn s).length≤s.count 10+1:=by
 have:=aTy s (aAy (aB1 s)) (s.length+1) 0
 rw [List.drop_zero] at this
 rw [aEn,aS1]
 split at this <;> omega
theorem bA6 (s:List UInt8):∀ (l p:List Sec) (u:Un),u∈uGo s p l→u.nth<p.length+l.length
 | [],_,_,h=>by simp [uGo] at h
 | x::r,p,u,h=>by
   simp only [uGo,List.mem_cons] at h
   rcases h with rfl | h
   ·have:cntT p x.title≤p.length:=by unfold cntT; exact List.length_filter_le _ _
    simp only [List.length_cons]
    omega
   ·have:=bA6 s r (p++[x]) u h
    simp only [List.length_append,List.length_cons,List.length_nil] at this ⊢
    omega
theorem aPi {s:List UInt8} {u:Un} (h:u∈aAc s):u.nth≤s.count 10:=by
 rw [aAc,List.mem_cons] at h
 rcases h with rfl | h
 ·exact Nat.zero_le _
 ·have h1:=bA6 s _ _ u h
  have h2:=bFl s
  simp only [List.length_nil] at h1
  omega
theorem bCr {b x y t:List UInt8} (h:t∈(aCy b x y).2) (hx:x.count 10≤17) (hy:y.count 10≤17):∃ k,k<20∧txtU (aAc x) (t,k)≠txtU (aAc y) (t,k)∧txtU (aAc x) (t,k)≠txtU (aAc b) (t,k)∧txtU (aAc y) (t,k)≠txtU (aAc b) (t,k):=by
 obtain ⟨n,u,hu,rfl,rfl,h1,h2,h3⟩:=bAp h
 refine ⟨u.nth,?_,h1,h2,h3⟩
 have hm:u.nm∈(aCk (aAc x) (aAc y)).map Un.nm:=List.mem_map_of_mem hu
 rw [← aGa,aCk,aIt,Bool.or_eq_true,aGa,aGa] at hm
 rcases hm with hm | hm
 ·obtain ⟨v,hv,e⟩:=List.mem_map.1 hm
  have:=aPi hv
  simp only [Un.nm,Prod.mk.injEq] at e
  omega
 ·obtain ⟨v,hv,e⟩:=List.mem_map.1 hm
  have:=aPi hv
  simp only [Un.nm,Prod.mk.injEq] at e
  omega
end Go.Ab
namespace Go.Ab
variable {P:Program} {F T:Nat→Nat}
open Go.Lib
def aHl (l:List Un) (n:List UInt8×Nat):List UInt8:=match txtU l n with | some s=>43::s | none=>[45]
theorem aO4 {l m:List Un} {n:List UInt8×Nat} (h:txtU l n≠txtU m n):aHl l n≠aHl m n:=by
 unfold aHl
 cases e1:txtU l n with
 | none=>cases e2:txtU m n with
   | none=>rw [e1,e2] at h; exact absurd rfl h
   | some b=>simp
 | some a=>cases e2:txtU m n with
   | none=>simp
   | some b =>
     rw [e1,e2] at h
     intro hh
     injection hh with _ hh
     exact h (by rw [hh])
theorem t283 (hf:bG3 P F T) (us:List Un) (hu:us.length≤2^30) (hs:sumT us≤2^30) (t:List UInt8) (k:Nat):PTr P (F 283) [.lst 3 (us.map Un.v),.str t,.int .i64 k] (.str (aHl us (t,k))):=by
 have hln:=aEu us
 refine ptrC [] hf (by simp [aCq]) rfl ?_
 simp only [c283,push_cast,seval,-Nat.reducePow,hln]
 refine aAe (fun m s=>∃ d r,us=d++r∧m=r.length∧txtU r (t,k)=txtU us (t,k)∧s.env 0=.lst 3 (us.map Un.v)∧s.env 1=.str t∧s.env 2=.int .i64 k∧s.env 7=.int .i64 d.length) us.length ⟨[],us,?_⟩ fun m s hJ=>?_
 ·simp only [push_cast,seval,-Nat.reducePow]
 ·obtain ⟨d,r,rfl,rfl,ht,j0,j1,j2,j7⟩:=hJ
  cases r with
  | nil =>
    have h':¬ ((d.length:Nat):Int)<((d++[]).length:Nat):=by simp
    have hld:=aEu d
    simp only [push_cast,seval,-Nat.reducePow,j0,j1,j2,j7,hld]
    rw [List.append_nil] at ht
    have:aHl d (t,k)=[45]:=by unfold aHl; rw [← ht]; rfl
    rw [this]
    rfl
  | cons u r =>
    have h':((d.length:Nat):Int)<((d++u::r).length:Nat):=by simp; omega
    have hg:((d++u::r).map Un.v).getD d.length .junk=.agg [.str u.title,.int .i64 u.nth,.str u.text]:=by simp [List.getD,Un.v]
    have hdl:(d++u::r).length=d.length+(r.length+1):=by simp
    have hst:=aOw (l:=d++u::r) (u:=u) (by simp)
    rw [aLl] at ht
    by_cases e1:u.title=t
    ·by_cases e2:(u.nth:Int)=(k:Int)
     ·have e3:u.nm=(t,k):=by simp only [Un.nm,Prod.mk.injEq]; exact ⟨e1,by omega⟩
      rw [if_pos e3] at ht
      have:aHl (d++u::r) (t,k)=43::u.text:=by unfold aHl; rw [← ht]
      rw [this]
      simp only [push_cast,seval,-Nat.reducePow,j0,j1,j2,j7,hln,h',hg,e1,e2]
      exact ⟨by omega,rfl⟩
     ·have e3:¬ u.nm=(t,k):=by simp only [Un.nm,Prod.mk.injEq]; rintro ⟨_,h⟩; exact e2 (by omega)
      rw [if_neg e3] at ht
      simp only [push_cast,seval,-Nat.reducePow,j0,j1,j2,j7,hln,h',hg,e1,e2]
      exact ⟨by omega,r.length,by omega,d++[u],r,by simp,rfl,ht,by simp⟩
    ·have e3:¬ u.nm=(t,k):=by simp only [Un.nm,Prod.mk.injEq]; rintro ⟨h,_⟩; exact e1 h
     rw [if_neg e3] at ht
     simp only [push_cast,seval,-Nat.reducePow,j0,j1,j2,j7,hln,h',hg,e1]
     exact ⟨by omega,r.length,by omega,d++[u],r,by simp,rfl,ht,by simp⟩
theorem aO9 (cs:List (List UInt8)):aG1 cs=.nils∧cs=[]∨aG1 cs=.lst 1 (cs.map .str)∧cs≠[]:=by
 cases cs with
 | nil=>exact .inl ⟨rfl,rfl⟩
 | cons c r=>exact .inr ⟨rfl,by simp⟩
theorem aO7 (cs:List (List UInt8)):(aG1 cs).one=true:=by cases cs <;> rfl
structure MrgLaw (P:Program) (F T:Nat→Nat):Prop where
 K:MrgFns P F T
 C:ThreeC P F T
 ins:InsC P F T
 h159:aRk P (F 159)
 h272:bHf P F T
 kn:PTr P (F 254) [] (.bool true)
theorem MrgLaw.mrg (M:MrgLaw P F T) {b x y:List UInt8} (hb:b.length≤300) (hx:x.length≤300) (hy:y.length≤300):PTr P (F 257) [.str b,.str x,.str y] (mrgV (aCy b x y)) :=
 t257 M.K b x y (by omega) (by omega) (by omega) (by omega) fun _=>.inl M.ins
theorem law281 (hf:bJ1 P F T) (M:MrgLaw P F T) (es:List V) (hi:V.imms es=true) (hes:∀ e,e∈es→∃ m,e=.int .i64 m):PTr P (F 281) [.lst 1 es] (.bool true):=by
 refine aUj 0 rfl fun hl=>?_
 refine ptrC [] hf (by simp [hi]) rfl ?_
 simp only [c281,push_cast,seval,-Nat.reducePow]
 refine aAa (n277 M.C es hi hes hl) ?_
 rintro v L0 n0 ⟨b,x,y,rfl,⟨hb,_⟩,⟨hx,_⟩,⟨hy,_⟩,hn⟩
 have c1:=M.mrg (b:=b) (x:=x) (y:=y) (by omega) (by omega) (by omega)
 have c2:=M.mrg (b:=b) (x:=y) (y:=x) (by omega) (by omega) (by omega)
 have u1:=t272 M.h272 M.h159 x (by omega)
 have u2:=t272 M.h272 M.h159 y (by omega)
 have hcl:=bAs b x y
 have hsd:=bN5 (b:=b) (x:=x) (y:=y)
 have l1:=aEu (aAc x)
 have l2:=aEu (aAc y)
 have k1:=aCt x
 have k2:=aCt y
 obtain ⟨m1,hm1⟩:∃ m,m=aCy b x y:=⟨_,rfl⟩
 obtain ⟨m2,hm2⟩:∃ m,m=aCy b y x:=⟨_,rfl⟩
 rw [← hm1] at c1 hcl hsd
 rw [← hm2] at c2 hcl hsd
 have i1:=aKv m1.2
 have i2:=aKv m2.2
 simp only [mrgV] at c1 c2
 simp only [push_cast,seval,-Nat.reducePow]
 refine aAb c1 (by simp only [push_cast,seval,-Nat.reducePow]) (by simp only [push_cast,seval,-Nat.reducePow,i1]) ?_
 simp only [push_cast,seval,-Nat.reducePow,aO7]
 refine aAb c2 (by simp only [push_cast,seval,-Nat.reducePow]) (by simp only [push_cast,seval,-Nat.reducePow,i2]) ?_
 simp only [push_cast,seval,-Nat.reducePow,aO7]
 refine aAb u1 (by simp only [push_cast,seval,-Nat.reducePow]) (by simp only [push_cast,seval,-Nat.reducePow,aCq]) ?_
 simp only [push_cast,seval,-Nat.reducePow]
 refine aAb u2 (by simp only [push_cast,seval,-Nat.reducePow]) (by simp only [push_cast,seval,-Nat.reducePow,aCq]) ?_
 by_cases hc:m1.2=[]
 ·have hc2:m2.2=[]:=List.length_eq_zero_iff.1 (by rw [← hcl,hc]; rfl)
  have e1:aG1 m1.2=.nils:=by rw [hc]; rfl
  have e2:aG1 m2.2=.nils:=by rw [hc2]; rfl
  simp only [push_cast,seval,-Nat.reducePow,e1,e2]
  refine aAe (fun m s=>∃ i,i≤(aAc x).length∧m=(aAc x).length-i∧((aAc x).length=(aAc y).length→∀ k,k<i→((aAc x).getD k ⟨[],0,[]⟩).nm=((aAc y).getD k ⟨[],0,[]⟩).nm)∧((aAc x).length≠(aAc y).length→i=0)∧s.env 10=.lst 3 ((aAc x).map Un.v)∧s.env 12=.lst 3 ((aAc y).map Un.v)∧s.env 14=.int .i64 i∧s.env 6=.ptr (n0+125) 0∧s.env 8=.ptr (n0+246) 0∧s.L (n0+125)=some (.box (T 27) [.str m1.1,.nils])∧s.L (n0+246)=some (.box (T 27) [.str m2.1,.nils])) (aAc x).length ⟨0,?_⟩ fun m s hJ=>?_
  ·simp only [push_cast,seval,-Nat.reducePow]
   exact ⟨by omega,fun _ k hk=>absurd hk (Nat.not_lt_zero _),fun _=>trivial⟩
  ·obtain ⟨i,hi',rfl,hall,hz,j10,j12,j14,j6,j8,jL6,jL8⟩:=hJ
   by_cases hlen:(aAc x).length=(aAc y).length
   ·have hlen':(((aAc x).length:Nat):Int)=((aAc y).length:Nat):=by omega
    have hall:=hall hlen
    by_cases h:i<(aAc x).length
    ·have h':((i:Nat):Int)<((aAc x).length:Nat):=by omega
     have h2':((i:Nat):Int)<((aAc y).length:Nat):=by omega
     obtain ⟨a,ha⟩:∃ a,a=(aAc x).getD i ⟨[],0,[]⟩:=⟨_,rfl⟩
     obtain ⟨b',hb'⟩:∃ a,a=(aAc y).getD i ⟨[],0,[]⟩:=⟨_,rfl⟩
     have hga:((aAc x).map Un.v).getD i .junk=.agg [.str a.title,.int .i64 a.nth,.str a.text]:=by rw [ha]; simp [List.getD,h,Un.v]
     have hgb:((aAc y).map Un.v).getD i .junk=.agg [.str b'.title,.int .i64 b'.nth,.str b'.text]:=by rw [hb']; simp [List.getD,show i<(aAc y).length by omega,Un.v]
     by_cases e3:a.title=b'.title
     ·by_cases e4:(a.nth:Int)=(b'.nth:Int)
      ·simp only [push_cast,seval,-Nat.reducePow,j10,j12,j14,j6,j8,l1,l2,h',h2',hlen',hga,hgb,e3,e4]
       refine ⟨h,by omega,h,by omega,by omega,(aAc x).length-(i+1),by omega,i+1,by omega,rfl,fun _ k hk=>?_,fun hne=>absurd hlen hne,by simp,jL6,jL8⟩
       by_cases hki:k=i
       ·subst hki
        rw [← ha,← hb']
        simp only [Un.nm,Prod.mk.injEq]
        exact ⟨e3,by omega⟩
       ·exact hall k (by omega)
      ·simp only [push_cast,seval,-Nat.reducePow,j10,j12,j14,j6,j8,l1,l2,h',h2',hlen',hga,hgb,e3,e4]
       refine ⟨h,by omega,h,by omega,aAb M.kn (by simp only [push_cast,seval,-Nat.reducePow]) (by simp only [push_cast,seval,-Nat.reducePow]) ?_⟩
       simp only [push_cast,seval,-Nat.reducePow,view]
     ·simp only [push_cast,seval,-Nat.reducePow,j10,j12,j14,j6,j8,l1,l2,h',h2',hlen',hga,hgb,e3]
      refine ⟨h,by omega,aAb M.kn (by simp only [push_cast,seval,-Nat.reducePow]) (by simp only [push_cast,seval,-Nat.reducePow]) ?_⟩
      simp only [push_cast,seval,-Nat.reducePow,view]
    ·have h':¬ ((i:Nat):Int)<((aAc x).length:Nat):=by omega
     have h'':¬ ((i:Nat):Int)<((aAc y).length:Nat):=by omega
     obtain rfl:i=(aAc x).length:=by omega
     have hnames:(aAc x).map Un.nm=(aAc y).map Un.nm:=List.ext_getElem (by simp [hlen]) fun k h1 h2=>by
      have hk:k<(aAc x).length:=by simpa using h1
      have:=hall k hk
      simpa [List.getD,hk,show k<(aAc y).length by omega] using this
     have htext:=hsd hnames hc
     simp only [push_cast,seval,-Nat.reducePow,j10,j12,j14,j6,j8,jL6,jL8,l1,l2,hlen',htext]
     refine aAb M.kn (by simp only [push_cast,seval,-Nat.reducePow]) (by simp only [push_cast,seval,-Nat.reducePow]) ?_
     simp only [push_cast,seval,-Nat.reducePow,view]
   ·have hlen':¬ (((aAc x).length:Nat):Int)=((aAc y).length:Nat):=by omega
    obtain rfl:=hz hlen
    have h0:(0:Int)<((aAc x).length:Nat):=by simp only [aAc,List.length_cons]; omega
    simp only [push_cast,seval,-Nat.reducePow,j10,j12,j14,j6,j8,jL6,jL8,l1,l2,hlen',h0]
    refine aAb M.kn (by simp only [push_cast,seval,-Nat.reducePow]) (by simp only [push_cast,seval,-Nat.reducePow]) ?_
    simp only [push_cast,seval,-Nat.reducePow,view]
 ·have hc2:m2.2≠[]:=fun e=>hc (List.length_eq_zero_iff.1 (by rw [hcl,e]; rfl))
  have e1:aG1 m1.2=.lst 1 (m1.2.map .str):=by rcases aO9 m1.2 with ⟨_,h⟩ | ⟨e,_⟩; exact absurd h hc; exact e
  have e2:aG1 m2.2=.lst 1 (m2.2.map .str):=by rcases aO9 m2.2 with ⟨_,h⟩ | ⟨e,_⟩; exact absurd h hc2; exact e
  have q1:(m1.2.map V.str).length=m2.2.length:=by rw [List.length_map,hcl]
  have q2:(m2.2.map V.str).length=m2.2.length:=List.length_map ..
  simp only [push_cast,seval,-Nat.reducePow,e1,e2,q1,q2]
  refine aAe (fun m s=>∃ i,i≤(aAc x).length∧m=(aAc x).length-i∧((aAc x).length=(aAc y).length→∀ k,k<i→((aAc x).getD k ⟨[],0,[]⟩).nm=((aAc y).getD k ⟨[],0,[]⟩).nm)∧((aAc x).length≠(aAc y).length→i=0)∧s.env 10=.lst 3 ((aAc x).map Un.v)∧s.env 12=.lst 3 ((aAc y).map Un.v)∧s.env 14=.int .i64 i∧s.env 6=.ptr (n0+125) 0∧s.env 8=.ptr (n0+246) 0∧s.L (n0+125)=some (.box (T 27) [.str m1.1,(.lst 1 (m1.2.map .str))])∧s.L (n0+246)=some (.box (T 27) [.str m2.1,(.lst 1 (m2.2.map .str))])) (aAc x).length ⟨0,?_⟩ fun m s hJ=>?_
  ·simp only [push_cast,seval,-Nat.reducePow]
   exact ⟨by omega,fun _ k hk=>absurd hk (Nat.not_lt_zero _),fun _=>trivial⟩
  ·obtain ⟨i,hi',rfl,hall,hz,j10,j12,j14,j6,j8,jL6,jL8⟩:=hJ
   by_cases hlen:(aAc x).length=(aAc y).length
   ·have hlen':(((aAc x).length:Nat):Int)=((aAc y).length:Nat):=by omega
    have hall:=hall hlen
    by_cases h:i<(aAc x).length
    ·have h':((i:Nat):Int)<((aAc x).length:Nat):=by omega
     have h2':((i:Nat):Int)<((aAc y).length:Nat):=by omega
     obtain ⟨a,ha⟩:∃ a,a=(aAc x).getD i ⟨[],0,[]⟩:=⟨_,rfl⟩
     obtain ⟨b',hb'⟩:∃ a,a=(aAc y).getD i ⟨[],0,[]⟩:=⟨_,rfl⟩
     have hga:((aAc x).map Un.v).getD i .junk=.agg [.str a.title,.int .i64 a.nth,.str a.text]:=by rw [ha]; simp [List.getD,h,Un.v]
     have hgb:((aAc y).map Un.v).getD i .junk=.agg [.str b'.title,.int .i64 b'.nth,.str b'.text]:=by rw [hb']; simp [List.getD,show i<(aAc y).length by omega,Un.v]
     by_cases e3:a.title=b'.title
     ·by_cases e4:(a.nth:Int)=(b'.nth:Int)
      ·simp only [push_cast,seval,-Nat.reducePow,j10,j12,j14,j6,j8,l1,l2,h',h2',hlen',hga,hgb,e3,e4]
       refine ⟨h,by omega,h,by omega,by omega,(aAc x).length-(i+1),by omega,i+1,by omega,rfl,fun _ k hk=>?_,fun hne=>absurd hlen hne,by simp,jL6,jL8⟩
       by_cases hki:k=i
       ·subst hki
        rw [← ha,← hb']
        simp only [Un.nm,Prod.mk.injEq]
        exact ⟨e3,by omega⟩
       ·exact hall k (by omega)
      ·simp only [push_cast,seval,-Nat.reducePow,j10,j12,j14,j6,j8,l1,l2,h',h2',hlen',hga,hgb,e3,e4]
       refine ⟨h,by omega,h,by omega,aAb M.kn (by simp only [push_cast,seval,-Nat.reducePow]) (by simp only [push_cast,seval,-Nat.reducePow]) ?_⟩
       simp only [push_cast,seval,-Nat.reducePow,view]
     ·simp only [push_cast,seval,-Nat.reducePow,j10,j12,j14,j6,j8,l1,l2,h',h2',hlen',hga,hgb,e3]
      refine ⟨h,by omega,aAb M.kn (by simp only [push_cast,seval,-Nat.reducePow]) (by simp only [push_cast,seval,-Nat.reducePow]) ?_⟩
      simp only [push_cast,seval,-Nat.reducePow,view]
    ·have h':¬ ((i:Nat):Int)<((aAc x).length:Nat):=by omega
     have h'':¬ ((i:Nat):Int)<((aAc y).length:Nat):=by omega
     obtain rfl:i=(aAc x).length:=by omega
     have hpos:(0:Int)<(m2.2.length:Nat):=by have:=List.length_pos_iff.2 hc2; omega
     simp only [push_cast,seval,-Nat.reducePow,j10,j12,j14,j6,j8,jL6,jL8,l1,l2,hlen',hpos,q1,q2]
     refine aAb M.kn (by simp only [push_cast,seval,-Nat.reducePow]) (by simp only [push_cast,seval,-Nat.reducePow]) ?_
     simp only [push_cast,seval,-Nat.reducePow,view]
   ·have hlen':¬ (((aAc x).length:Nat):Int)=((aAc y).length:Nat):=by omega
    obtain rfl:=hz hlen
    have h0:(0:Int)<((aAc x).length:Nat):=by simp only [aAc,List.length_cons]; omega
    simp only [push_cast,seval,-Nat.reducePow,j10,j12,j14,j6,j8,jL6,jL8,l1,l2,hlen',h0]
    refine aAb M.kn (by simp only [push_cast,seval,-Nat.reducePow]) (by simp only [push_cast,seval,-Nat.reducePow]) ?_
    simp only [push_cast,seval,-Nat.reducePow,view]
theorem bFj (b x y:List UInt8):(aCy b x y).2.length≤(aAc x).length+(aAc y).length:=by
 unfold aCy
 split
 ·simp
 ·split
  ·simp
  ·have h2:=(aD9 (aAc y) (aAc x) ([],0) (List.pairwise_map.2 (aD6 x))).2
   have h3:(aCk (aAc x) (aAc y)).length≤(aAc x).length+(aAc y).length:=h2
   refine Nat.le_trans ?_ h3
   simp only [aFz,List.length_map]
   exact List.length_filter_le _ _
theorem law282 (hf:bL8 P F T) (M:MrgLaw P F T) (h283:bG3 P F T) (es:List V) (hi:V.imms es=true) (hes:∀ e,e∈es→∃ m,e=.int .i64 m):PTr P (F 282) [.lst 1 es] (.bool true):=by
 refine aUj 0 rfl fun hl=>?_
 refine ptrC [] hf (by simp [hi]) rfl ?_
 simp only [c282,push_cast,seval,-Nat.reducePow]
 refine aAa (n277 M.C es hi hes hl) ?_
 rintro v L0 n0 ⟨b,x,y,rfl,⟨hb,_⟩,⟨hx,hx2⟩,⟨hy,hy2⟩,hn⟩
 have c1:=M.mrg (b:=b) (x:=x) (y:=y) (by omega) (by omega) (by omega)
 have u0:=t272 M.h272 M.h159 b (by omega)
 have u1:=t272 M.h272 M.h159 x (by omega)
 have u2:=t272 M.h272 M.h159 y (by omega)
 have k0:=aCt b
 have k1:=aCt x
 have k2:=aCt y
 have s0:=aFv b
 have s1:=aFv x
 have s2:=aFv y
 have hcle:=bFj b x y
 have hca:∀ t,t∈(aCy b x y).2→_:=fun t ht=>bCr ht hx2 hy2
 obtain ⟨m1,hm1⟩:∃ m,m=aCy b x y:=⟨_,rfl⟩
 rw [← hm1] at c1 hca hcle
 have i1:=aKv m1.2
 simp only [mrgV] at c1
 simp only [push_cast,seval,-Nat.reducePow]
 refine aAb c1 (by simp only [push_cast,seval,-Nat.reducePow]) (by simp only [push_cast,seval,-Nat.reducePow,i1]) ?_
 simp only [push_cast,seval,-Nat.reducePow,aO7]
 refine aAb u0 (by simp only [push_cast,seval,-Nat.reducePow]) (by simp only [push_cast,seval,-Nat.reducePow,aCq]) ?_
 simp only [push_cast,seval,-Nat.reducePow]
 refine aAb u1 (by simp only [push_cast,seval,-Nat.reducePow]) (by simp only [push_cast,seval,-Nat.reducePow,aCq]) ?_
 simp only [push_cast,seval,-Nat.reducePow]
 refine aAb u2 (by simp only [push_cast,seval,-Nat.reducePow]) (by simp only [push_cast,seval,-Nat.reducePow,aCq]) ?_
 by_cases hc:m1.2=[]
 ·have e1:aG1 m1.2=.nils:=by rw [hc]; rfl
  simp only [push_cast,seval,-Nat.reducePow,e1]
  refine aAe (fun m s=>s.env 6=.ptr (n0+110) 0∧s.L (n0+110)=some (.box (T 27) [.str m1.1,.nils])∧s.env 14=.int .i64 0) 0 ?_ fun m s hJ=>?_
  ·simp only [push_cast,seval,-Nat.reducePow]
  ·obtain ⟨j6,jL,j14⟩:=hJ
   simp only [push_cast,seval,-Nat.reducePow,j6,jL,j14]
   refine aAb M.kn (by simp only [push_cast,seval,-Nat.reducePow]) (by simp only [push_cast,seval,-Nat.reducePow]) ?_
   simp only [push_cast,seval,-Nat.reducePow,view]
 ·have e1:aG1 m1.2=.lst 1 (m1.2.map .str):=by rcases aO9 m1.2 with ⟨_,h⟩ | ⟨e,_⟩; exact absurd h hc; exact e
  have hcl:(m1.2.map V.str).length=m1.2.length:=List.length_map ..
  simp only [push_cast,seval,-Nat.reducePow,e1]
  refine aAe (fun m s=>∃ i,i≤m1.2.length∧m=m1.2.length-i∧s.env 6=.ptr (n0+110) 0∧s.L (n0+110)=some (.box (T 27) [.str m1.1,.lst 1 (m1.2.map .str)])∧s.env 8=.lst 3 ((aAc b).map Un.v)∧s.env 10=.lst 3 ((aAc x).map Un.v)∧s.env 12=.lst 3 ((aAc y).map Un.v)∧s.env 14=.int .i64 i∧m1.2.length<2^63) m1.2.length ⟨0,?_⟩ fun m s hJ=>?_
  ·simp only [push_cast,seval,-Nat.reducePow]
   exact ⟨by omega,by omega⟩
  ·obtain ⟨i,hi',rfl,j6,jL,j8,j10,j12,j14,h63⟩:=hJ
   by_cases h:i<m1.2.length
   ·have h':((i:Nat):Int)<(m1.2.length:Nat):=by omega
    obtain ⟨t,ht⟩:∃ t,t=m1.2.getD i []:=⟨_,rfl⟩
    have hg:(m1.2.map V.str).getD i .junk=.str t:=by rw [ht]; simp [List.getD,h]
    have htm:t∈m1.2:=by rw [ht]; simp [List.getD,h]
    obtain ⟨k,hk,d1,d2,d3⟩:=hca t htm
    simp only [push_cast,seval,-Nat.reducePow,j6,jL,j8,j10,j12,j14,h',hcl]
    refine aAe (fun m s2=>∃ (q:Nat) (some_:Bool),q≤20∧m=20-q∧(k<q→some_=true)∧s2.env 6=.ptr (n0+110) 0∧s2.L (n0+110)=some (.box (T 27) [.str m1.1,.lst 1 (m1.2.map .str)])∧s2.env 8=.lst 3 ((aAc b).map Un.v)∧s2.env 10=.lst 3 ((aAc x).map Un.v)∧s2.env 12=.lst 3 ((aAc y).map Un.v)∧s2.env 14=.int .i64 i∧s2.env 15=.bool some_∧s2.env 16=.int .i64 q) 20 ⟨0,false,?_⟩ fun m s2 hJ=>?_
    ·simp only [push_cast,seval,-Nat.reducePow,j6,jL,j8,j10,j12,j14]
     exact fun h=>absurd h (Nat.not_lt_zero _)
    ·obtain ⟨q,sm,hq,rfl,hsm,l6,lL,l8,l10,l12,l14,l15,l16⟩:=hJ
     by_cases hq20:q<20
     ·have hq':((q:Nat):Int)<20:=by omega
      simp only [push_cast,seval,-Nat.reducePow,l6,lL,l8,l10,l12,l14,l15,l16,hq',hcl,hg]
      refine ⟨h,aAb (t283 h283 (aAc b) (by omega) (by omega) t q) (by simp only [push_cast,seval,-Nat.reducePow,aCq]) (by simp only [push_cast,seval,-Nat.reducePow]) ?_⟩
      simp only [push_cast,seval,-Nat.reducePow,l6,lL,l8,l10,l12,l14,l15,l16,hcl,hg]
      refine ⟨h,aAb (t283 h283 (aAc x) (by omega) (by omega) t q) (by simp only [push_cast,seval,-Nat.reducePow,aCq]) (by simp only [push_cast,seval,-Nat.reducePow]) ?_⟩
      simp only [push_cast,seval,-Nat.reducePow,l6,lL,l8,l10,l12,l14,l15,l16,hcl,hg]
      refine ⟨h,aAb (t283 h283 (aAc y) (by omega) (by omega) t q) (by simp only [push_cast,seval,-Nat.reducePow,aCq]) (by simp only [push_cast,seval,-Nat.reducePow]) ?_⟩
      have step:∀ sm':Bool,(sm=true→sm'=true)→(q=k→sm'=true)→(k<q+1→sm'=true):=fun sm' h1 h2 hk'=>by
       by_cases e:q=k
       ·exact h2 e
       ·exact h1 (hsm (by omega))
      cases sm with
      | true =>
        simp only [push_cast,seval,-Nat.reducePow,l6,lL,l8,l10,l12,l14,l15,l16]
        exact ⟨by omega,20-(q+1),by omega,q+1,true,by omega,rfl,fun _=>rfl,rfl,by simp⟩
      | false =>
        by_cases w1:aHl (aAc x) (t,q)=aHl (aAc y) (t,q)
        ·have hqk:q≠k:=fun e=>by subst e; exact aO4 d1 w1
         simp only [push_cast,seval,-Nat.reducePow,l6,lL,l8,l10,l12,l14,l15,l16,w1]
         exact ⟨by omega,20-(q+1),by omega,q+1,false,by omega,rfl,step false (fun h=>h) (fun e=>absurd e hqk),rfl,by simp⟩
        ·by_cases w2:aHl (aAc b) (t,q)=aHl (aAc x) (t,q)
         ·have hqk:q≠k:=fun e=>by subst e; exact aO4 d2 w2.symm
          simp only [push_cast,seval,-Nat.reducePow,l6,lL,l8,l10,l12,l14,l15,l16,w1,w2]
          exact ⟨by omega,20-(q+1),by omega,q+1,false,by omega,rfl,step false (fun h=>h) (fun e=>absurd e hqk),rfl,by simp⟩
         ·by_cases w3:aHl (aAc b) (t,q)=aHl (aAc y) (t,q)
          ·have hqk:q≠k:=fun e=>by subst e; exact aO4 d3 w3.symm
           have w2':¬ aHl (aAc y) (t,q)=aHl (aAc x) (t,q):=fun e=>w1 e.symm
           simp only [push_cast,seval,-Nat.reducePow,l6,lL,l8,l10,l12,l14,l15,l16,w1,w2,w3,w2']
           exact ⟨by omega,20-(q+1),by omega,q+1,false,by omega,rfl,step false (fun h=>h) (fun e=>absurd e hqk),rfl,by simp⟩
          ·simp only [push_cast,seval,-Nat.reducePow,l6,lL,l8,l10,l12,l14,l15,l16,w1,w2,w3]
           exact ⟨by omega,20-(q+1),by omega,q+1,true,by omega,rfl,fun _=>rfl,rfl,by simp⟩
     ·have hq':¬ ((q:Nat):Int)<20:=by omega
      obtain rfl:=hsm (by omega)
      simp only [push_cast,seval,-Nat.reducePow,l6,lL,l8,l10,l12,l14,l15,l16,hq']
      exact ⟨by omega,m1.2.length-(i+1),by omega,i+1,by omega,rfl,by simp,h63⟩
   ·have h':¬ ((i:Nat):Int)<(m1.2.length:Nat):=by omega
    simp only [push_cast,seval,-Nat.reducePow,j6,jL,j8,j10,j12,j14,h',hcl]
    refine aAb M.kn (by simp only [push_cast,seval,-Nat.reducePow]) (by simp only [push_cast,seval,-Nat.reducePow]) ?_
    simp only [push_cast,seval,-Nat.reducePow,view]
end Go.Ab
