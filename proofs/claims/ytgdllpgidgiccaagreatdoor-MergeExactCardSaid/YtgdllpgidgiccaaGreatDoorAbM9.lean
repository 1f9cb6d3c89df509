/- Several texts of one kind, merged. No condition. -/
import Derived.Test.YtgdllpgidgiccaaGreatDoorAbM3
import Derived.Test.YtgdllpgidgiccaaGreatDoorAbM6
import Derived.Test.YtgdllpgidgiccaaGreatDoorAbM1
import Derived.Test.YtgdllpgidgiccaaGreatDoorAbM5
set_option linter.unusedSimpArgs false
set_option linter.unusedVariables false
namespace Go.Ab
variable {P:Program} {F T:Nat→Nat}
open Go.Lib
open Go.RowKit
def bNg (P:Program) (f:Nat):Prop:=∀ (b off n c vb voff vc:Nat) (vs:List Value) (w:World),n+1≤c→c≤9223372036854775807→vs.length=3 →
 (∀ j,j<3→(w.cell? ⟨b,off+n*3+j,none⟩).isSome=true)→(∀ j,j<3→w.frozen? ⟨b,off+n*3+j,none⟩=false)→(∀ (j:Nat) v,vs[j]?=some v→w.cell? ⟨vb,voff+j,none⟩=some v)→(∀ v∈vs,v.oneCell'=true) →
 Calls P f #[.slice (some ⟨b,off,none⟩) n c,.int .i64 n,.slice (some ⟨vb,voff,none⟩) 1 vc] w fun e w'=>e=.returned (.slice (some ⟨b,off,none⟩) (n+1) c)∧w'=w.setCells b (off+n*3) vs
def bM7 (P:Program) (f ty:Nat) (Z:Array Value):Prop:=∀ (b off n c vb voff vc:Nat) (cs vs:List Value) (w:World),n≤c→c<n+1→(n+1)*40≤140737488355328→cs.length=n*3→vs.length=3 →
 (∀ (j:Nat) v,cs[j]?=some v→w.cell? ⟨b,off+j,none⟩=some v)→(∀ (j:Nat) v,vs[j]?=some v→w.cell? ⟨vb,voff+j,none⟩=some v)→(∀ v∈vs,v.oneCell'=true) →
 Calls P f #[.slice (some ⟨b,off,none⟩) n c,.int .i64 n,.slice (some ⟨vb,voff,none⟩) 1 vc] w fun e w'=>∃ G,n+1≤G∧G<2^63∧e=.returned (.slice (some ⟨w.heap.size,0,none⟩) (n+1) G) ∧
  w'=w.drew.alloc (.cells ((cs++vs).toArray++Builtin.zeroCells Z (G-(n+1))) ty)
def bO7 (P:Program) (f:Nat):Prop:=∀ (b off n c i vb voff vc:Nat) (cs vs:List Value) (w:World),i<n→n+1≤c→c≤9223372036854775807→vb≠b→cs.length=n*3→vs.length=3 →
 (∀ (j:Nat) v,cs[j]?=some v→w.cell? ⟨b,off+j,none⟩=some v)→(∀ j,j<(n+1)*3→(w.cell? ⟨b,off+j,none⟩).isSome=true)→(∀ j,j<(n+1)*3→w.frozen? ⟨b,off+j,none⟩=false) →
 (∀ (j:Nat) v,vs[j]?=some v→w.cell? ⟨vb,voff+j,none⟩=some v)→(∀ v∈cs,v.oneCell'=true)→(∀ v∈vs,v.oneCell'=true) →
 ∀ (tA tB:TypeId) (kA kB:Nat),w.shape? vb=some (tA,kA)→w.shape? b=some (tB,kB)→kA≠0→kB≠0→w.frozen? ⟨b,kB,none⟩=false →
 Calls P f #[.slice (some ⟨b,off,none⟩) n c,.int .i64 i,.slice (some ⟨vb,voff,none⟩) 1 vc] w fun e w'=>e=.returned (.slice (some ⟨b,off,none⟩) (n+1) c)∧w'=(w.drew.setCells b (off+(i+1)*3) (cs.drop (i*3))).setCells b (off+i*3) vs
def bM8 (P:Program) (f ty:Nat) (Z:Array Value):Prop:=∀ (b off n c i vb voff vc:Nat) (cs vs:List Value) (w:World),i<n→n≤c→c<n+1→(n+1)*40≤140737488355328→cs.length=n*3→vs.length=3 →
 (∀ (j:Nat) v,cs[j]?=some v→w.cell? ⟨b,off+j,none⟩=some v)→(∀ (j:Nat) v,vs[j]?=some v→w.cell? ⟨vb,voff+j,none⟩=some v)→(∀ v∈cs,v.oneCell'=true)→(∀ v∈vs,v.oneCell'=true) →
 Calls P f #[.slice (some ⟨b,off,none⟩) n c,.int .i64 i,.slice (some ⟨vb,voff,none⟩) 1 vc] w fun e w'=>∃ G,n+1≤G∧G<2^63∧e=.returned (.slice (some ⟨w.heap.size,0,none⟩) (n+1) G) ∧
  w'=(((w.alloc (.cells ((cs.take (i*3)).toArray++Builtin.zeroCells Z (n+1-i)++Builtin.zeroCells Z (G-(n+1))) ty)).drew.setCells w.heap.size (i*3) vs).drew).setCells w.heap.size ((i+1)*3) (cs.drop (i*3))
def insL (cs vs:List Value) (i:Nat):List Value:=cs.take (i*3)++(vs++cs.drop (i*3))
theorem aGw {cs vs:List Value} {i n t:Nat} (hc:cs.length=n*3) (hv:vs.length=3) (hi:i≤n):(insL cs vs i).getD t undef=if t<i*3 then cs.getD t undef else if t<i*3+3 then vs.getD (t-i*3) undef else cs.getD (t-3) undef:=by
 have h1:(cs.take (i*3)).length=i*3:=by rw [List.length_take]; omega
 unfold insL
 simp only [List.getD_eq_getElem?_getD]
 by_cases a:t<i*3
 ·rw [if_pos a,List.getElem?_append_left (by omega),List.getElem?_take,if_pos a]
 ·rw [if_neg a,List.getElem?_append_right (by omega),h1]
  by_cases b:t<i*3+3
  ·rw [if_pos b,List.getElem?_append_left (by omega)]
  ·rw [if_neg b,List.getElem?_append_right (by omega),List.getElem?_drop,hv]
   congr 2
   omega
theorem aPu {R:V→Value→Prop} {us:List Un} {u:Un} {i:Nat} {cs vs:List Value} {c':Array Value} {base:Nat} (hi:i≤us.length) (hc:cs.length=us.length*3) (hv:vs.length=3)
 (hcR:∀ (k j:Nat) x,(((us.map Un.v)[k]?).bind fun e=>e.cells[j]?)=some x→R x (cs.getD (k*3+j) undef)) (hvR:∀ (j:Nat) x,u.v.cells[j]?=some x→R x (vs.getD j undef))
 (hp:∀ t,t<(us.length+1)*3→c'.getD (base+t) undef=(insL cs vs i).getD t undef) :
 ∀ (k j:Nat) x,((((insU us i u).map Un.v)[k]?).bind fun e=>e.cells[j]?)=some x→R x (c'.getD (base+k*3+j) undef):=by
 intro k j x hx
 have hz:∀ e,e∈(insU us i u).map Un.v→e.ncells=some 3:=fun e he=>by
  obtain ⟨v,_,rfl⟩:=List.mem_map.1 he
  rfl
 obtain ⟨hk,hj⟩:=aJ7 hz hx
 have hil:(insU us i u).length=us.length+1:=by unfold insU; simp; omega
 rw [List.length_map,hil] at hk
 rw [Nat.add_assoc,hp (k*3+j) (by omega),aGw hc hv hi]
 have hm:(insU us i u).map Un.v=(us.map Un.v).take i++u.v::(us.map Un.v).drop i:=by unfold insU; simp [List.map_take,List.map_drop]
 have htl:((us.map Un.v).take i).length=i:=by rw [List.length_take,List.length_map]; omega
 rw [hm] at hx
 rcases Nat.lt_trichotomy k i with a | a | a
 ·rw [List.getElem?_append_left (by omega),List.getElem?_take,if_pos a] at hx
  rw [if_pos (by omega)]
  exact hcR k j x hx
 ·subst a
  rw [List.getElem?_append_right (by omega),htl,Nat.sub_self,List.getElem?_cons_zero,Option.bind_some] at hx
  rw [if_neg (by omega),if_pos (by omega),show k*3+j-k*3=j by omega]
  exact hvR j x hx
 ·obtain ⟨k',rfl⟩:∃ k',k=k'+1:=⟨k-1,by omega⟩
  rw [List.getElem?_append_right (by omega),htl,show k'+1-i=(k'-i)+1 by omega,List.getElem?_cons_succ,List.getElem?_drop,show i+(k'-i)=k' by omega] at hx
  rw [if_neg (by omega),if_neg (by omega),show (k'+1)*3+j-3=k'*3+j by omega]
  exact hcR k' j x hx
theorem aHt (Z:Array Value) (k:Nat):(Builtin.zeroCells Z k).size=k*Z.size:=by simp [Builtin.zeroCells]
theorem aK5 {G:Ghost} {D:Nat→Prop} {w:World} {s:List UInt8} {v:Value} (h:Rep G D w (.str s) v):v.oneCell'=true:=by cases h; rfl
theorem aUn {G:Ghost} {D:Nat→Prop} {w:World} {k:IntKind} {n:Int} {v:Value} (h:Rep G D w (.int k n) v):v.oneCell'=true:=by cases h; rfl
theorem aW3 {w:World} {b q:Nat} (h:(w.cell? ⟨b,q,none⟩).isSome=true):∃ t k,w.shape? b=some (t,k)∧k≠0:=by
 unfold World.cell? at h
 unfold World.shape?
 simp only at h
 split at h
 ·rename_i c ty fr hb
  refine ⟨_,_,rfl,?_⟩
  intro h0
  simp only [Option.isSome_none,Bool.false_eq_true,if_false] at h
  rw [Array.getElem?_eq_none (by omega)] at h
  cases h
 ·cases h
theorem aYd {l:List Value} {n:Nat} {f:Nat→Value} (hl:l=(List.range n).map f):l.length=n∧(∀ t,t<n→l.getD t undef=f t)∧(∀ (j:Nat) v,l[j]?=some v→j<n∧v=f j):=by
 subst hl
 refine ⟨by simp,fun t ht=>by simp [List.getD,ht],fun j v hj=>?_⟩
 have hjl:j<n:=by
  have:=(List.getElem?_eq_some_iff.1 hj).1
  simpa using this
 refine ⟨hjl,?_⟩
 rw [List.getElem?_map,List.getElem?_range hjl] at hj
 simpa using hj.symm
theorem Hp.good0 {D:Nat→Prop} {L:Heap} {nx:Nat} {G:Ghost} {w:World} (h:Hp P D 0 ⟨fun _=>.junk,L,nx⟩ G w):Good P D 0 ⟨fun _=>.junk,L,nx⟩ G ⟨#[],[]⟩ w:=⟨rfl,rfl,fun i=>.junk _,h⟩
theorem bHc {Z:Array Value} (hZ:Z.size=3) (h1:bNg P (F 265)) (h2:bM7 P (F 265) (T 28) Z) (h3:bO7 P (F 265)) (h4:bM8 P (F 265) (T 28) Z):InsC P F T:=by
 intro us i u id nx L hL h0 hi hn hid
 have hln:=aC3 us
 have hil:(insU us i u).length=us.length+1:=by unfold insU; simp; omega
 refine ⟨⟨.own nx 3 0 (us.length+1),upd (upd L id none) nx (some (.vec (T 28) 3 ((insU us i u).map Un.v))),nx+1,nx,rfl,aAd _ _ _,.inr (Nat.le_refl _),by omega,by omega,fun x hx hne=>by rw [aAc _ _ _ _ (by omega),aAc _ _ _ _ hne]⟩,fun D G w vs hp hsz hr=>?_⟩
 obtain ⟨g,hG,ok⟩:=hp.blk id _ hL
 obtain ⟨z1,z2,z3,z4,z5⟩:=ok
 rw [hln] at z2
 have hcap:0<g.cap:=by omega
 obtain ⟨c,ty,fr,k1,⟨k2,rfl⟩,k3,k4⟩:=z5 hcap
 have r0:=hr 0 _ rfl
 have r1:=hr 1 _ rfl
 have r2:=hr 2 _ rfl
 obtain ⟨g',a,cap,e0,q1,q2,q3,q4,q5,q6⟩:=aEt r0
 obtain rfl:g=g':=Option.some.inj (hG.symm.trans q1)
 have ha:=q6 (by omega)
 rw [Nat.zero_mul,Nat.add_zero] at ha
 subst ha
 obtain ⟨a2,cap2,vb,vq,e2,m1,m2,m3,m4,m5,m6⟩:=aGi r2
 obtain ⟨rfl,hvb,hnd⟩:=m3 (by simp)
 have e1:vs.getD 1 undef=.int .i64 i:=by
  generalize vs.getD 1 undef=x at r1
  cases r1
  rfl
 have hvs:vs=#[.slice (some ⟨g.blk,g.off,none⟩) us.length cap,.int .i64 i,.slice (some ⟨vb,vq,none⟩) 1 cap2]:=by
  have hz:vs.size=3:=by simpa using hsz.symm
  refine Array.ext (by simp [hz]) fun j h1 h2=>?_
  have hj:j=0∨j=1∨j=2:=by omega
  rcases hj with rfl | rfl | rfl
  ·rw [Array.getD_eq_getD_getElem?,Array.getElem?_eq_getElem h1] at e0; simpa using e0
  ·rw [Array.getD_eq_getD_getElem?,Array.getElem?_eq_getElem h1] at e1; simpa using e1
  ·rw [Array.getD_eq_getD_getElem?,Array.getElem?_eq_getElem h1] at e2; simpa using e2
 subst hvs
 have hown:Own L G g.blk:=⟨id,_,g,hL,hG,⟨hcap,rfl⟩⟩
 have hvne:vb≠g.blk:=fun e=>hnd (.inr (by rw [e]; exact hown))
 have hlt:g.blk<w.heap.size:=(Array.getElem?_eq_some_iff.1 k1).1
 obtain ⟨cs,hcs⟩:∃ cs,cs=(List.range (us.length*3)).map fun t=>c.getD (g.off+t) undef:=⟨_,rfl⟩
 obtain ⟨cl,cg,ce⟩:=aYd hcs
 obtain ⟨vl,hvl⟩:∃ vl,vl=(List.range 3).map fun t=>aEq w vb (vq+t):=⟨_,rfl⟩
 obtain ⟨vl1,vg,ve⟩:=aYd hvl
 have hcR:∀ (k j:Nat) x,(((us.map Un.v)[k]?).bind fun e=>e.cells[j]?)=some x→Rep G (Dp D L G) w x (cs.getD (k*3+j) undef):=fun k j x hx=>by
  obtain ⟨b1,b2⟩:=aJ7 z4 hx
  rw [hln] at b1
  rw [cg _ (by omega),← Nat.add_assoc]
  exact k4 k j x hx
 have hvR:∀ (j:Nat) x,u.v.cells[j]?=some x→Rep G (Dp D L G) w x (vl.getD j undef):=fun j x hx=>by
  have hj:j<3:=by
   have:=(List.getElem?_eq_some_iff.1 hx).1
   simpa [Un.v,V.cells] using this
  rw [vg _ hj]
  have:=m6 0 j x (by simpa using hx)
  rwa [show vq+0*3+j=vq+j by omega] at this
 have hcsz:g.off+us.length*3≤c.size:=by
  have:us.length*3≤g.cap*3:=Nat.mul_le_mul_right _ z2
  omega
 have x1:∀ (j:Nat) v,cs[j]?=some v→w.cell? ⟨g.blk,g.off+j,none⟩=some v:=fun j v hj=>by
  obtain ⟨hj1,rfl⟩:=ce j v hj
  rw [aA4 k1,Array.getD_eq_getD_getElem?,Array.getElem?_eq_getElem (by omega)]
  rfl
 have x2:∀ (j:Nat) v,vl[j]?=some v→w.cell? ⟨vb,vq+j,none⟩=some v:=fun j v hj=>by
  obtain ⟨hj1,rfl⟩:=ve j v hj
  have hs:=m5 0 j (u.v.cells.getD j .junk) (by
   have:j<u.v.cells.length:=by simpa [Un.v,V.cells] using hj1
   simp [List.getD,this])
  rw [show vq+0*3+j=vq+j by omega] at hs
  obtain ⟨y,hy⟩:=Option.isSome_iff_exists.1 hs
  rw [aEq,hy]
  rfl
 have x3:∀ v,v∈cs→v.oneCell'=true:=fun v hv=>by
  obtain ⟨j,hj,rfl⟩:=List.mem_iff_getElem.1 hv
  rw [cl] at hj
  have hk:j / 3<us.length:=by omega
  have hj3:j=(j / 3)*3+j % 3:=by omega
  have hx:∀ x,(us[j / 3]).v.cells[j % 3]?=some x→Rep G (Dp D L G) w x (cs.getD j undef):=fun x hx=>by
   have:=hcR (j / 3) (j % 3) x (by simp [hk]; exact hx)
   rwa [← hj3] at this
  have hg:cs.getD j undef=cs[j]:=by simp [List.getD,show j<cs.length by omega]
  rw [hg] at hx
  have hm:j % 3=0∨j % 3=1∨j % 3=2:=by omega
  rcases hm with e | e | e
  ·exact aK5 (hx (.str us[j / 3].title) (by rw [e]; rfl))
  ·exact aUn (hx (.int .i64 us[j / 3].nth) (by rw [e]; rfl))
  ·exact aK5 (hx (.str us[j / 3].text) (by rw [e]; rfl))
 have x4:∀ v,v∈vl→v.oneCell'=true:=fun v hv=>by
  obtain ⟨j,hj,rfl⟩:=List.mem_iff_getElem.1 hv
  rw [vl1] at hj
  have hg:vl.getD j undef=vl[j]:=by simp [List.getD,show j<vl.length by omega]
  have hm:j=0∨j=1∨j=2:=by omega
  rw [← hg]
  rcases hm with rfl | rfl | rfl
  ·exact aK5 (hvR 0 (.str u.title) rfl)
  ·exact aUn (hvR 1 (.int .i64 u.nth) rfl)
  ·exact aK5 (hvR 2 (.str u.text) rfl)
 have x5:∀ t,t<g.cap*3→(w.cell? ⟨g.blk,g.off+t,none⟩).isSome=true:=fun t ht=>by
  rw [aA4 k1,Array.getElem?_eq_getElem (by omega)]
  rfl
 have x6:∀ t,t<g.cap*3→w.frozen? ⟨g.blk,g.off+t,none⟩=false:=fun t ht=>by
  have:=k3 t ht
  simp only [World.frozen?,k1]
  simpa using this
 have x7:w.shape? g.blk=some (T 28,c.size):=by simp [World.shape?,k1]
 have x8:w.frozen? ⟨g.blk,c.size,none⟩=false:=by
  have:=k3.un (by decide)
  simp only [World.frozen?,k1]
  simpa using this
 obtain ⟨tA,kA,x9,x10⟩:=aW3 (m5 0 0 (.str u.title) rfl)
 have hc0:c.size≠0:=by omega
 have hq4:cap=g.cap:=by omega
 subst hq4
 have hncell:∀ e,e∈(insU us i u).map Un.v→e.ncells=some 3:=fun e he=>by
  obtain ⟨v,_,rfl⟩:=List.mem_map.1 he
  rfl
 -- in place
 have finA:∀ (w':World) (c':Array Value),w'.heap[g.blk]?=some (.cells c' (T 28) fr)→c'.size=c.size→(∀ x,x≠g.blk→w'.heap[x]?=w.heap[x]?)→w'.heap.size=w.heap.size→w'.os=w.os→w'.tape=w.tape→w'.output=w.output→us.length+1≤g.cap →
  (∀ t,t<(us.length+1)*3→c'.getD (g.off+t) undef=(insL cs vl i).getD t undef) →
  ∃ v r L' nx' G',Ending.returned (.slice (some ⟨g.blk,g.off,none⟩) (us.length+1) g.cap)=Ending.returned v ∧
    (∃ id',r=V.own id' 3 0 (us.length+1)∧L' id'=some (Blk.vec (T 28) 3 (List.map Un.v (insU us i u)))∧(id'=id∨nx≤id')∧id'<nx'∧nx≤nx'∧∀ (x:Nat),x<nx→x≠id→L' x=L x) ∧
    Hp P D 0 ⟨fun _=>.junk,L',nx'⟩ G' w'∧nx≤nx'∧Nxt L G w L' G' w'∧Rep G' (Dp D L' G') w' r v:=by
  intro w' c' y1 y2 y3 y4 y5 y6 y7 y8 y9
  obtain ⟨g1,g2⟩:=hp.good0.turnBlk (b':=.vec (T 28) 3 ((insU us i u).map Un.v)) hL hG (fun x=>Iff.rfl) (fun x h=>h.2) y3 ⟨hcap,rfl⟩ y4 y5 y6 y7 fun G' D' hm=>by
   refine ⟨z1,by rw [List.length_map,hil]; exact y8,z3,hncell,fun _=>⟨c',_,fr,y1,⟨by rw [y2]; exact k2,rfl⟩,by rw [y2]; exact k3,?_⟩⟩
   exact aPu (R:=fun x v=>Rep G' D' w' x v) hi cl vl1 (fun k j x hx=>hm _ _ (hcR k j x hx)) (fun j x hx=>hm _ _ (hvR j x hx)) y9
  refine ⟨_,.own id 3 0 (us.length+1),_,nx,G,rfl,⟨id,rfl,aAd _ _ _,.inl rfl,hid,Nat.le_refl _,fun x hx hne=>aAc _ _ _ _ hne⟩,g1.hp.congr rfl rfl,Nat.le_refl _,g2,?_⟩
  exact .own id 3 0 _ g _ _ hG z1 y8 (by omega) z3 (fun _=>by simp)
 -- a new block
 have finB:∀ (w':World) (c':Array Value) (cp:Nat),w'.heap[w.heap.size]?=some (.cells c' (T 28) (0,0))→cp*3≤c'.size→us.length+1≤cp→cp<2^63→Below w.heap.size w w'→w'.heap.size=w.heap.size+1 →
  (∀ t,t<(us.length+1)*3→c'.getD (0+t) undef=(insL cs vl i).getD t undef) →
  ∃ v r L' nx' G',Ending.returned (.slice (some ⟨w.heap.size,0,none⟩) (us.length+1) cp)=Ending.returned v ∧
    (∃ id',r=V.own id' 3 0 (us.length+1)∧L' id'=some (Blk.vec (T 28) 3 (List.map Un.v (insU us i u)))∧(id'=id∨nx≤id')∧id'<nx'∧nx≤nx'∧∀ (x:Nat),x<nx→x≠id→L' x=L x) ∧
    Hp P D 0 ⟨fun _=>.junk,L',nx'⟩ G' w'∧nx≤nx'∧Nxt L G w L' G' w'∧Rep G' (Dp D L' G') w' r v:=by
  intro w' c' cp y1 y2 y3 y4 y5 y6 y9
  obtain ⟨gd,xd⟩:=hp.goodN.drop id
  obtain ⟨g1,g2⟩:=gd.newBlk (w':=w') y5 (id:=nx) (hp.fin nx (by simp)) (by simp [St.drop]) (.vec (T 28) 3 ((insU us i u).map Un.v)) ⟨w.heap.size,0,cp,3,0⟩
   (fun x hx=>by
    obtain ⟨_,rfl⟩:=hx
    exact ⟨Nat.le_refl _,by show w.heap.size<w'.heap.size; omega⟩)
   (fun G' D' hm=>by
    have hk:∀ x v,Rep G (Dp D L G) w x v→Rep G' D' w' x v:=fun x v hx=>hm _ _ (xd.rep hx)
    refine ⟨rfl,by rw [List.length_map,hil]; exact y3,y4,hncell,fun _=>⟨c',_,_,y1,⟨by show 0+cp*3≤_; omega,rfl⟩,⟨fun i _=>by simp,fun _=>by simp⟩,?_⟩⟩
    exact aPu (R:=fun x v=>Rep G' D' w' x v) hi cl vl1 (fun k j x hx=>hk _ _ (hcR k j x hx)) (fun j x hx=>hk _ _ (hvR j x hx)) y9)
  refine ⟨_,.own nx 3 0 (us.length+1),_,nx+1,_,rfl,⟨nx,rfl,aAd _ _ _,.inr (Nat.le_refl _),by omega,by omega,fun x hx hne=>by
   show upd (upd L id none) nx _ x=L x
   rw [aAc _ _ _ _ (by omega),aAc _ _ _ _ hne]⟩,⟨fun id hid=>?_,g1.hp.blk,g1.hp.apart,g1.hp.away,g1.hp.dlt,g1.hp.gl⟩,Nat.le_succ _,xd.trans g2,?_⟩
  ·exact g1.hp.fin id hid
  ·exact .own nx 3 0 _ ⟨w.heap.size,0,cp,3,0⟩ _ _ (aAd _ _ _) rfl y3 (by simp) y4 (fun _=>by simp)
 have hap:(cs.take (i*3)).length=i*3:=by rw [List.length_take]; omega
 have gc:∀ t,t<us.length*3→c.getD (g.off+t) undef=cs.getD t undef:=fun t ht=>(cg t ht).symm
 by_cases hroom:us.length+1≤g.cap
 ·have hr3:(us.length+1)*3≤g.cap*3:=Nat.mul_le_mul_right _ hroom
  by_cases hin:i=us.length
  ·subst hin
   refine (h1 g.blk g.off us.length g.cap vb vq cap2 vl w hroom (by omega) vl1 (fun j hj=>by rw [Nat.add_assoc]; exact x5 _ (by omega)) (fun j hj=>by rw [Nat.add_assoc]; exact x6 _ (by omega)) x2 x4).mono ?_
   rintro e w' ⟨rfl,rfl⟩
   obtain ⟨s1,s2,s3,s4,s5,s6⟩:=aBu g.blk vl (g.off+us.length*3) w k1
   obtain ⟨p1,p2⟩:=aDr vl c (g.off+us.length*3) (by omega)
   refine finA _ _ s1 p1 s2 s3 s4 s5 s6 hroom fun t ht=>?_
   rw [p2,aGw cl vl1 (Nat.le_refl _)]
   by_cases a:t<us.length*3
   ·rw [if_neg (by omega),if_pos a]; exact gc t a
   ·rw [if_pos (by omega),if_neg a,if_pos (by omega)]
    congr 1
    omega
  ·refine (h3 g.blk g.off us.length g.cap i vb vq cap2 cs vl w (by omega) hroom (by omega) hvne cl vl1 x1 (fun j hj=>x5 _ (by omega)) (fun j hj=>x6 _ (by omega)) x2 x3 x4 tA (T 28) kA c.size x9 x7 x10 hc0 x8).mono ?_
   rintro e w' ⟨rfl,rfl⟩
   have hdl:(cs.drop (i*3)).length=(us.length-i)*3:=by rw [List.length_drop,cl]; omega
   obtain ⟨s1,s2,s3,s4,s5,s6⟩:=aBu g.blk (cs.drop (i*3)) (g.off+(i+1)*3) w.drew (c:=c) (ty:=T 28) (fr:=fr) k1
   obtain ⟨p1,p2⟩:=aDr (cs.drop (i*3)) c (g.off+(i+1)*3) (by omega)
   obtain ⟨t1,t2,t3,t4,t5,t6⟩:=aBu g.blk vl (g.off+i*3) _ s1
   obtain ⟨o1,o2⟩:=aDr vl (putL c (g.off+(i+1)*3) (cs.drop (i*3))) (g.off+i*3) (by omega)
   refine finA _ _ t1 (o1.trans p1) (fun x hx=>(t2 x hx).trans (s2 x hx)) (t3.trans s3) (t4.trans s4) (t5.trans s5) (t6.trans s6) hroom fun t ht=>?_
   rw [o2,aGw cl vl1 hi]
   by_cases a:t<i*3
   ·rw [if_neg (by omega),if_pos a,p2,if_neg (by omega)]; exact gc t (by omega)
   ·by_cases b:t<i*3+3
    ·rw [if_pos (by omega),if_neg a,if_pos b]
     congr 1
     omega
    ·rw [if_neg (by omega),if_neg a,if_neg b,p2,if_pos (by omega)]
     rw [List.getD_eq_getElem?_getD,List.getElem?_drop,← List.getD_eq_getElem?_getD]
     congr 1
     omega
 ·by_cases hin:i=us.length
  ·subst hin
   refine (h2 g.blk g.off us.length g.cap vb vq cap2 cs vl w z2 (by omega) (by omega) cl vl1 x1 x2 x4).mono ?_
   rintro e w' ⟨cp,b1,b2,rfl,rfl⟩
   refine finB _ _ cp (aAz ..) ?_ b1 b2 ?_ (aB9 ..) fun t ht=>?_
   ·simp only [Array.size_append,aHt,hZ,List.size_toArray,List.length_append,cl,vl1]
    omega
   ·exact ⟨rfl,rfl,rfl,by show w.heap.size≤(w.heap.push _).size; simp,fun k hk=>heap_alloc_old _ _ hk⟩
   ·rw [Nat.zero_add,aGw cl vl1 (Nat.le_refl _)]
    simp only [Array.getD_eq_getD_getElem?,List.getD_eq_getElem?_getD]
    rw [Array.getElem?_append_left (by simp only [List.size_toArray,List.length_append,cl,vl1]; omega),List.getElem?_toArray]
    by_cases a:t<us.length*3
    ·rw [if_pos a,List.getElem?_append_left (by omega)]
    ·rw [if_neg a,if_pos (by omega),List.getElem?_append_right (by omega),cl]
  ·refine (h4 g.blk g.off us.length g.cap i vb vq cap2 cs vl w (by omega) z2 (by omega) (by omega) cl vl1 x1 x2 x3 x4).mono ?_
   rintro e w' ⟨cp,b1,b2,rfl,rfl⟩
   have hdl:(cs.drop (i*3)).length=(us.length-i)*3:=by rw [List.length_drop,cl]; omega
   obtain ⟨ROW,hROW⟩:∃ R:Array Value,R=(List.take (i*3) cs).toArray++Builtin.zeroCells Z (us.length+1-i)++Builtin.zeroCells Z (cp-(us.length+1)):=⟨_,rfl⟩
   rw [← hROW]
   have hRs:ROW.size=cp*3:=by
    rw [hROW]
    simp only [Array.size_append,aHt,hZ,List.size_toArray,hap]
    omega
   have hRg:∀ t,t<i*3→ROW.getD t undef=cs.getD t undef:=fun t ht=>by
    rw [hROW]
    simp only [Array.getD_eq_getD_getElem?,List.getD_eq_getElem?_getD]
    rw [Array.getElem?_append_left (by simp only [Array.size_append,List.size_toArray,hap]; omega),Array.getElem?_append_left (by simp only [List.size_toArray,hap]; omega),List.getElem?_toArray,List.getElem?_take,if_pos ht]
   obtain ⟨s1,s2,s3,s4,s5,s6⟩:=aBu w.heap.size vl (i*3) (w.alloc (.cells ROW (T 28))).drew (c:=ROW) (ty:=T 28) (fr:=(0,0)) (aAz ..)
   obtain ⟨p1,p2⟩:=aDr vl ROW (i*3) (by omega)
   obtain ⟨t1,t2,t3,t4,t5,t6⟩:=aBu w.heap.size (cs.drop (i*3)) ((i+1)*3) ((w.alloc (.cells ROW (T 28))).drew.setCells w.heap.size (i*3) vl).drew (c:=putL ROW (i*3) vl) (ty:=T 28) (fr:=(0,0)) s1
   obtain ⟨o1,o2⟩:=aDr (cs.drop (i*3)) (putL ROW (i*3) vl) ((i+1)*3) (by omega)
   have hsz':(w.alloc (.cells ROW (T 28))).heap.size=w.heap.size+1:=aB9 ..
   refine finB _ _ cp t1 (by rw [o1,p1,hRs]; exact Nat.le_refl _) b1 b2 ⟨t4.trans s4,t5.trans s5,t6.trans s6,?_,fun k hk=>?_⟩ ?_ fun t ht=>?_
   ·have e1:=t3
    have e2:=s3
    show w.heap.size≤_
    rw [e1]
    show w.heap.size≤((w.alloc (.cells ROW (T 28))).drew.setCells w.heap.size (i*3) vl).heap.size
    rw [e2]
    show w.heap.size≤(w.alloc (.cells ROW (T 28))).heap.size
    omega
   ·rw [t2 k (by omega)]
    show ((w.alloc (.cells ROW (T 28))).drew.setCells w.heap.size (i*3) vl).heap[k]?=_
    rw [s2 k (by omega)]
    exact heap_alloc_old _ _ hk
   ·rw [t3]
    show ((w.alloc (.cells ROW (T 28))).drew.setCells w.heap.size (i*3) vl).heap.size=_
    rw [s3]
    exact hsz'
   ·rw [Nat.zero_add,o2,aGw cl vl1 hi]
    by_cases a:t<i*3
    ·rw [if_neg (by omega),if_pos a,p2,if_neg (by omega)]
     exact hRg t a
    ·by_cases b:t<i*3+3
     ·rw [if_neg (by omega),if_neg a,if_pos b,p2,if_pos (by omega)]
     ·rw [if_pos (by omega),if_neg a,if_neg b,List.getD_eq_getElem?_getD,List.getElem?_drop,← List.getD_eq_getElem?_getD]
      congr 1
      omega
end Go.Ab
namespace Go.Ab
end Go.Ab
namespace Go.Ab
variable {P:Program} {F T:Nat→Nat}
open Go.Lib
theorem bD6 (cs:List (List UInt8)):aGr cs=.nils∧cs=[]∨aGr cs=.lst 1 (cs.map .str)∧cs≠[]:=by
 cases cs with
 | nil=>exact .inl ⟨rfl,rfl⟩
 | cons c r=>exact .inr ⟨rfl,by simp⟩
theorem aKx (cs:List (List UInt8)):(aGr cs).one=true:=by cases cs <;> rfl
structure MrgLaw (P:Program) (F T:Nat→Nat):Prop where
 K:MrgFns P F T
 C:ThreeC P F T
 ins:InsC P F T
 h159:aNw P (F 159)
 h272:bCx P F T
 kn:PTr P (F 254) [] (.bool true)
theorem MrgLaw.mrg (M:MrgLaw P F T) {b x y:List UInt8} (hb:b.length≤300) (hx:x.length≤300) (hy:y.length≤300):PTr P (F 257) [.str b,.str x,.str y] (mrgV (aEw b x y)) :=
 t257 M.K b x y (by omega) (by omega) (by omega) (by omega) fun _=>.inl M.ins
theorem aT0 (b x y:List UInt8):(aEw b x y).2.length≤(aAf x).length+(aAf y).length:=by
 unfold aEw
 split
 ·simp
 ·split
  ·simp
  ·have h2:=(aEa (aAf y) (aAf x) ([],0) (List.pairwise_map.2 (aDe x))).2
   have h3:(aCf (aAf x) (aAf y)).length≤(aAf x).length+(aAf y).length:=h2
   refine Nat.le_trans ?_ h3
   simp only [aDy,List.length_map]
   exact List.length_filter_le _ _
end Go.Ab
