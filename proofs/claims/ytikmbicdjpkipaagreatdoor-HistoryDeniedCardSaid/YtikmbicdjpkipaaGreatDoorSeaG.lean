import Derived.RangeFuncNested
import Derived.RangeFuncBound
import Derived.RangeFuncCalls
import Derived.RangeFuncLeaves
import Derived.Shelf.Abstract
import Derived.Shelf.RegionOpen
import Derived.WalkKit
import Derived.OwnWalkIn
import Derived.TacticsInMore
import Derived.LoopNIn
import Derived.LoopIn
import Derived.Test.YtikmbicdjpkipaaGreatDoorSeaA
set_option linter.unusedSimpArgs false
set_option linter.unusedVariables false
namespace Go.Proofs.YtikmbicdjpkipaaGreatDoor
open Go.RowKit Go.Shelf Go.Proofs
theorem bC8 (xs:Array Value) (P:Program) (w:World):(asAgg (.agg xs)).run P w=.ok xs w:=by simp [asAgg]
attribute [local go_sem] Oper.semAt_some bC8
theorem bLv (u0 u4 u5:Int) (u1 u2 t:ByteArray) (W:World):(Instr.field 42 (.agg #[.int .i64 u0,.string u1,.string u2,.string t,.int .i64 u4,.int .i64 u5]) 3).run Tryz.prog W=.ok (.string t) W:=by
 simp [Instr.field,go_sem]
attribute [local go_sem] bLv
def dwn (n k:Nat):List Nat:=(List.range k).map fun j=>n-1-j
theorem aZp (n k:Nat):dwn n (k+1)=dwn n k++[n-1-k]:=by simp [dwn,List.range_succ]
theorem bFw {n k:Nat} (h:k≤n):∃ m,dwn n n=dwn n k++m:=by
 obtain ⟨d,hd⟩:∃ d,n=k+d:=⟨n-k,by omega⟩
 refine ⟨((List.range d).map (k+·)).map fun j=>n-1-j,?_⟩
 unfold dwn
 rw [← List.map_append,← List.range_add,← hd]
theorem aSv (n k:Nat):(dwn n k).length=k:=by simp [dwn]
set_option maxRecDepth 100000 in
set_option maxHeartbeats 2000000 in
theorem bIx (F:Fence) (n:Nat) (h8:F.fn 155) (hro:F.round=none) (hn:1≤n) (l Bs n₀ b off len cap:Nat) (a:Option Addr) (ha:0<len→a=some ⟨b,off,none⟩) (va vb vc:Nat→Value) (hreach:len*24≤140737488351232) (hb:0<len→b<n₀) (J Jx:List Nat→World→Prop)
 (hY:∀ pre x W,J pre W→pre.length<len→x<len→YieldAt F (n-1) Tryz.prog l #[.int .i64 (x:Int),.agg #[va x,vb x,vc x]] W fun e W' =>
  (e=.returned (.bool true)∧J (pre++[x]) W'∧Below n₀ W W')∨(e=.returned (.bool false)∧Jx (pre++[x]) W'))
 (W:World) (hBs:W.cell? ⟨Bs,0,none⟩=some (.slice a len cap)) (hBn:Bs<n₀) (hc:∀ j,j<len→W.cell? ⟨b,off+j*3,none⟩=some (va j)∧W.cell? ⟨b,off+j*3+1,none⟩=some (vb j)∧W.cell? ⟨b,off+j*3+2,none⟩=some (vc j)) (h0:J [] W) :
 CallsIn F n Tryz.prog 155 #[.func (.yield l) #[] #[],.pointer (some ⟨Bs,0,none⟩)] W fun e W'=>(∃ v,e=.returned v) ∧
  (J (dwn len len) W'∨(∃ k,k≤len∧Jx (dwn len k) W')):=by
 refine callsIn_of_wp Tryz.func155 rfl h8 ?_ hro
 simp only [Tryz.ntmps155,List.size_toArray,List.length_cons,List.length_nil,Nat.reduceAdd,Nat.reduceSub,Array.replicate_succ,Array.replicate_zero,List.push_toArray,List.append_toArray,List.nil_append,List.cons_append]
 gi_wp2
 gi_loopw [3] (fun i wr=>∃ k:Nat,k≤len∧i=.int .i64 ((len:Int)-1-k)∧J (dwn len k) wr∧Below n₀ W wr)
  (fun i _=>(intOf i+1).toNat)
 case atStart=>exact ⟨0,Nat.zero_le _,by simp,h0,Below.refl _ _⟩
 case round =>
  obtain ⟨k,hk,rfl,hJs,hnx⟩:=hrel
  have hBs':=(hnx.cell (p:=⟨Bs,0,none⟩) hBn).trans hBs
  by_cases hlt:k<len
  ·obtain rfl:=ha (by omega)
   have hb:=hb (by omega)
   obtain ⟨x,hx⟩:∃ x,x=len-1-k:=⟨_,rfl⟩
   have hxl:x<len:=by omega
   have hxi:((len:Int)-1-k)=(x:Int):=by omega
   rw [hxi]
   obtain ⟨fn,tmps,assign,body,hy,hR⟩:=hY _ x wr hJs (by rw [aSv]; exact hlt) hxl
   obtain ⟨c0,c1,c2⟩:=hc x hxl
   have d0:=(hnx.cell (p:=⟨b,off+x*3,none⟩) hb).trans c0
   have d1:=(hnx.cell (p:=⟨b,off+x*3+1,none⟩) hb).trans c1
   have d2:=(hnx.cell (p:=⟨b,off+x*3+2,none⟩) hb).trans c2
   have hd:dwn len (k+1)=dwn len k++[x]:=by rw [aZp,hx]
   have hk1:k+1≤len:=hlt
   have hmeas:x+k+1=len:=by omega
   clear hx hxi hk
   gi_wp2
   refine hR.mono ?_
   rintro e W3 (⟨rfl,hJ3,hk3⟩ | ⟨rfl,hJx3⟩)
   ·gi_wp2
    go_roundw
    case rel=>exact ⟨k+1,hk1,by simp; omega,by rw [hd]; exact hJ3,hnx.trans hk3⟩
    case measure=>simp [intOf]
   ·gi_wp2
    refine bodyPost_ret (results_none rfl _ _ _) rfl ?_
    exact ⟨⟨_,rfl⟩,.inr ⟨k+1,hk1,by rw [hd]; exact hJx3⟩⟩
  ·obtain rfl:k=len:=by omega
   gi_wp2
   go_end0
   exact ⟨⟨_,rfl⟩,.inl hJs⟩
set_option maxHeartbeats 1000000 in
theorem bHh (F:Fence) (n:Nat) (h6:F.fn 112) (hro:F.round=none) (a:Option Addr) (len cap:Nat) (w:World) :
 CallsIn F n Tryz.prog 112 #[.slice a len cap] w fun e w'=>e=.returned (.func (.func 155) #[] #[.pointer (some ⟨w.heap.size,0,none⟩)])∧w'=w.alloc (.cells #[.slice a len cap] 22):=by
 refine callsIn_of_wp Tryz.func112 rfl h6 ?_ hro
 simp only [Tryz.ntmps112,List.size_toArray,List.length_cons,List.length_nil,Nat.reduceAdd,Nat.reduceSub,Array.replicate_succ,Array.replicate_zero,List.push_toArray,List.append_toArray,List.nil_append,List.cons_append]
 gi_wp2
 go_ret
 exact ⟨rfl,rfl⟩
abbrev El (len:Nat):={ x:Nat // x<len }
theorem bAc (F:Fence) (n:Nat) (h8:F.fn 155) (hro:F.round=none) (hn:1≤n) (Bs n₀ b off len cap:Nat) (a:Option Addr) (ha:0<len→a=some ⟨b,off,none⟩) (va vb vc:Nat→Value) (hreach:len*24≤140737488351232) (hb:0<len→b<n₀) (w:World) (hBs:Bs<n₀) (hn₀:n₀≤w.heap.size)
 (hc:w.cell? ⟨Bs,0,none⟩=some (.slice a len cap)) (hI:∀ j,j<len→w.cell? ⟨b,off+j*3,none⟩=some (va j)∧w.cell? ⟨b,off+j*3+1,none⟩=some (vb j)∧w.cell? ⟨b,off+j*3+2,none⟩=some (vc j)) :
 SeqStopsK F n Tryz.prog 155 #[.pointer (some ⟨Bs,0,none⟩)] (fun x:El len=>#[Value.int .i64 (x.1:Int),Value.agg #[va x.1,vb x.1,vc x.1]]) (Below n₀) (fun ys=>ys.map Subtype.val=dwn len len)
  (fun pre=>∃ k,k≤len∧pre.map Subtype.val=dwn len k) len w:=fun l J Jx W hW _ _ hY h0=>by
 have hW':=hW.mono hn₀
 refine (bIx F n h8 hro hn l Bs n₀ b off len cap a ha va vb vc hreach hb (fun pre W=>∃ p:List (El len),p.map Subtype.val=pre∧J p W) (fun pre W=>∃ p:List (El len),p.map Subtype.val=pre∧Jx p W) ?_ W ((hW'.cell (p:=⟨Bs,0,none⟩) hBs).trans hc) hBs (fun j hj=>?_) ⟨[],rfl,h0⟩).mono ?_
 ·rintro pre x W1 ⟨p,rfl,hp⟩ hl hx
  refine (hY p ⟨x,hx⟩ W1 hp (by simpa using hl)).mono ?_
  rintro e W' (⟨he,hj,hk⟩ | ⟨he,hj⟩)
  ·exact .inl ⟨he,⟨_,by simp,hj⟩,hk⟩
  ·exact .inr ⟨he,_,by simp,hj⟩
 ·obtain ⟨h1,h2,h3⟩:=hI j hj
  have hb:=hb (by omega)
  exact ⟨(hW'.cell (p:=⟨b,off+j*3,none⟩) hb).trans h1,(hW'.cell (p:=⟨b,off+j*3+1,none⟩) hb).trans h2,(hW'.cell (p:=⟨b,off+j*3+2,none⟩) hb).trans h3⟩
 ·rintro e W' ⟨he,⟨p,hp,hj⟩ | ⟨k,hk,p,hp,hj⟩⟩
  ·exact ⟨he,.inl ⟨p,hp,hj⟩⟩
  ·exact ⟨he,.inr ⟨p,⟨k,hk,hp⟩,hj⟩⟩
def Rowd (W:World) (B:Nat) (t:TypeId) (cs:Array Value):Prop:=W.heap[B]?=some (.cells cs t (0,0))
theorem Rowd.kept {W W':World} {row:Option Nat} {B:Nat} {t:TypeId} {v:Array Value} (h:Rowd W B t v) (hg:W.grownBy W' row) (hne:some B≠row):Rowd W' B t v:=(hg.block B (Array.getElem?_eq_some_iff.1 h).1 hne).trans h
theorem aQa {β:Type} (B:Nat) (t:TypeId) (f:β→Array Value):Own (fun s W=>Rowd W B t (f s)):=fun s X Y row hs hg hrow =>
 hs.kept hg (fun e'=>by obtain ⟨o,ho,hc⟩:=hrow B e'.symm; rw [show X.heap[B]?=_ from hs] at ho; cases ho; cases hc)
theorem Rowd.cell {W:World} {B:Nat} {t:TypeId} {cs:Array Value} {j:Nat} {v:Value} (h:Rowd W B t cs) (hv:cs[j]?=some v):W.cell? ⟨B,j,none⟩=some v:=by simp [World.cell?,show W.heap[B]?=_ from h,hv]
def hitB (ps:Nat→Int) (pn:Nat→ByteArray) (ts:Int) (tn:ByteArray) (j:Nat):Bool:=decide (ps j=ts)&&decide ((pn j).toList=tn.toList)
def resG (q:Option Nat) (tx:Nat→ByteArray):Array Value:=match q with
 | some j=>#[.string (tx j),.bool true]
 | none=>#[.string ⟨#[]⟩,.bool false]
theorem res2 (tmps:Array Value) (w:World) {B2 B3:Nat} {u:ByteArray} {v:Bool} (h2:tmps[4]?=some (.pointer (some ⟨B2,0,none⟩))) (h3:tmps[5]?=some (.pointer (some ⟨B3,0,none⟩))) (c2:w.cell? ⟨B2,0,none⟩=some (.string u)) (c3:w.cell? ⟨B3,0,none⟩=some (.bool v)):(results Tryz.f64 tmps).run Tryz.prog w=.ok (.tuple #[.string u,.bool v]) w:=by
 have h:Tryz.f64.results=#[.cell 4 9,.cell 5 4]:=rfl
 simp [results,h,h2,h3,go_sem,c2,c3]
set_option maxRecDepth 100000 in
set_option maxHeartbeats 1000000 in
theorem bC0 (F:Fence) (n:Nat) (h64:F.fn 64) (h112:F.fn 112) (h155:F.fn 155) (h72:F.fn 72) (hro:F.round=none) (hn:6≤n) (b off len cap:Nat) (a:Option Addr) (ha:0<len→a=some ⟨b,off,none⟩) (ps:Nat→Int) (pn:Nat→ByteArray) (sa:Nat→Option Addr) (sl sc:Nat→Nat) (tx:Nat→ByteArray) (hreach:len*24≤140737488351232) (ts:Int) (tn:ByteArray) (f0 f1 f2 f4 f5 f6 f7:Value) (w:World) (hb:0<len→b<w.heap.size)
 (hI:∀ j,j<len→w.cell? ⟨b,off+j*3,none⟩=some (.int .i64 (ps j))∧w.cell? ⟨b,off+j*3+1,none⟩=some (.string (pn j))∧w.cell? ⟨b,off+j*3+2,none⟩=some (.slice (sa j) (sl j) (sc j)))
 (hcur:∀ j,j<len→∀ (l:Nat) (W:World),Below w.heap.size w W→CallsIn (F.inRound l) (n-1-1-1) Tryz.prog 72 #[.agg #[.int .i64 (ps j),.string (pn j),.slice (sa j) (sl j) (sc j)]] W fun e W'=>(∃ (u0 u4 u5:Int) (u1 u2:ByteArray),e=.returned (.agg #[.int .i64 u0,.string u1,.string u2,.string (tx j),.int .i64 u4,.int .i64 u5]))∧Below W.heap.size W W') :
 CallsIn F n Tryz.prog 64 #[.agg #[f0,f1,f2,.slice a len cap,f4,f5,f6,f7],.agg #[.int .i64 ts,.string tn]] w fun e W'=>e=.returned (.tuple (resG ((dwn len len).find? (hitB ps pn ts tn)) tx))∧Below w.heap.size w W':=by
 have h1:1≤n:=by omega
 refine callsIn_of_wp_marks Tryz.func64 rfl h64 ?_ hro
 simp only [Tryz.ntmps64,List.size_toArray,List.length_cons,List.length_nil,Nat.reduceAdd,Nat.reduceSub,Array.replicate_succ,Array.replicate_zero,List.push_toArray,List.append_toArray,List.nil_append,List.cons_append]
 gi_wp2_with (gi_at_call 112; refine (bHh F (n-1) h112 hro _ _ _ _).mono ?_; rintro e w' ⟨rfl,rfl⟩)
 have q1:Rowd ((((((w.alloc (Obj.cells #[f0,f1,f2,Value.slice a len cap,f4,f5,f6,f7] 27)).alloc (Obj.cells #[Value.int IntKind.i64 ts,Value.string tn] 29)).alloc (Obj.cells #[Value.string { data:=#[] }] 9)).alloc (Obj.cells #[Value.bool false] 4)).alloc (Obj.cells #[Value.slice a len cap] 22))) (w.heap.size+1) 29 #[.int .i64 ts,.string tn]:=by
  have h:=World.alloc_heap_new (w.alloc (Obj.cells #[f0,f1,f2,Value.slice a len cap,f4,f5,f6,f7] 27)) (Obj.cells #[Value.int IntKind.i64 ts,Value.string tn] 29)
  rw [World.size_alloc] at h
  exact ((Rowd.kept (W:=_) h (World.grownBy_alloc _ _ none) (by simp)).kept (World.grownBy_alloc _ _ none) (by simp)).kept (World.grownBy_alloc _ _ none) (by simp)
 have q2:Boxed ((((((w.alloc (Obj.cells #[f0,f1,f2,Value.slice a len cap,f4,f5,f6,f7] 27)).alloc (Obj.cells #[Value.int IntKind.i64 ts,Value.string tn] 29)).alloc (Obj.cells #[Value.string { data:=#[] }] 9)).alloc (Obj.cells #[Value.bool false] 4)).alloc (Obj.cells #[Value.slice a len cap] 22))) (w.heap.size+1+1) 9 (.string ⟨#[]⟩):=by
  have h:=Boxed.new ((w.alloc (Obj.cells #[f0,f1,f2,Value.slice a len cap,f4,f5,f6,f7] 27)).alloc (Obj.cells #[Value.int IntKind.i64 ts,Value.string tn] 29)) 9 (.string ⟨#[]⟩)
  simp only [World.size_alloc] at h
  exact (h.alloc _).alloc _
 have q3:Boxed ((((((w.alloc (Obj.cells #[f0,f1,f2,Value.slice a len cap,f4,f5,f6,f7] 27)).alloc (Obj.cells #[Value.int IntKind.i64 ts,Value.string tn] 29)).alloc (Obj.cells #[Value.string { data:=#[] }] 9)).alloc (Obj.cells #[Value.bool false] 4)).alloc (Obj.cells #[Value.slice a len cap] 22))) (w.heap.size+1+1+1) 4 (.bool false):=by
  have h:=Boxed.new (((w.alloc (Obj.cells #[f0,f1,f2,Value.slice a len cap,f4,f5,f6,f7] 27)).alloc (Obj.cells #[Value.int IntKind.i64 ts,Value.string tn] 29)).alloc (Obj.cells #[Value.string { data:=#[] }] 9)) 4 (.bool false)
  simp only [World.size_alloc] at h
  exact h.alloc _
 have q4:Boxed ((((((w.alloc (Obj.cells #[f0,f1,f2,Value.slice a len cap,f4,f5,f6,f7] 27)).alloc (Obj.cells #[Value.int IntKind.i64 ts,Value.string tn] 29)).alloc (Obj.cells #[Value.string { data:=#[] }] 9)).alloc (Obj.cells #[Value.bool false] 4)).alloc (Obj.cells #[Value.slice a len cap] 22))) (w.heap.size+1+1+1+1) 22 (.slice a len cap):=by
  have h:=Boxed.new ((((w.alloc (Obj.cells #[f0,f1,f2,Value.slice a len cap,f4,f5,f6,f7] 27)).alloc (Obj.cells #[Value.int IntKind.i64 ts,Value.string tn] 29)).alloc (Obj.cells #[Value.string { data:=#[] }] 9)).alloc (Obj.cells #[Value.bool false] 4)) 22 (.slice a len cap)
  simp only [World.size_alloc] at h
  exact h
 have qb:Below w.heap.size w ((((((w.alloc (Obj.cells #[f0,f1,f2,Value.slice a len cap,f4,f5,f6,f7] 27)).alloc (Obj.cells #[Value.int IntKind.i64 ts,Value.string tn] 29)).alloc (Obj.cells #[Value.string { data:=#[] }] 9)).alloc (Obj.cells #[Value.bool false] 4)).alloc (Obj.cells #[Value.slice a len cap] 22))) :=
  (((((Below.refl _ w).alloc (Nat.le_refl _) _).alloc (by simp) _).alloc (by simp; omega) _).alloc (by simp; omega) _).alloc (by simp; omega) _
 have qs:((((((w.alloc (Obj.cells #[f0,f1,f2,Value.slice a len cap,f4,f5,f6,f7] 27)).alloc (Obj.cells #[Value.int IntKind.i64 ts,Value.string tn] 29)).alloc (Obj.cells #[Value.string { data:=#[] }] 9)).alloc (Obj.cells #[Value.bool false] 4)).alloc (Obj.cells #[Value.slice a len cap] 22))).heap.size=w.heap.size+5:=by simp
 obtain ⟨W0,hW0⟩:∃ W0,((((((w.alloc (Obj.cells #[f0,f1,f2,Value.slice a len cap,f4,f5,f6,f7] 27)).alloc (Obj.cells #[Value.int IntKind.i64 ts,Value.string tn] 29)).alloc (Obj.cells #[Value.string { data:=#[] }] 9)).alloc (Obj.cells #[Value.bool false] 4)).alloc (Obj.cells #[Value.slice a len cap] 22)))=W0:=⟨_,rfl⟩
 rw [hW0] at q1 q2 q3 q4 qb qs ⊢
 clear hW0
 refine wpIn_rangeFunc_ownH hro h1 (gf:=155) (lb:=#[.pointer (some ⟨w.heap.size+1+1+1+1,0,none⟩)]) rfl h155 (enters_of Tryz.func155 (by kernel_rfl) rfl)
  (bAc F (n-1) h155 hro (by omega) (w.heap.size+1+1+1+1) (w.heap.size+5) b off len cap a ha (fun j=>.int .i64 (ps j)) (fun j=>.string (pn j)) (fun j=>.slice (sa j) (sl j) (sc j)) hreach (fun h=>by have:=hb h; omega) W0 (by omega) (by omega) q4.cell (fun j hj=>by
   obtain ⟨g1,g2,g3⟩:=hI j hj
   have hb:=hb (by omega)
   exact ⟨(qb.cell (p:=⟨b,off+j*3,none⟩) hb).trans g1,(qb.cell (p:=⟨b,off+j*3+1,none⟩) hb).trans g2,(qb.cell (p:=⟨b,off+j*3+2,none⟩) hb).trans g3⟩))
  belowK_t (belowK_b (by omega)) (Below.refl _ _) (fun _=>rfl)
  (fun pre W=>((Rowd W (w.heap.size+1) 29 #[.int .i64 ts,.string tn]∧Boxed W (w.heap.size+1+1) 9 (.string ⟨#[]⟩))∧Boxed W (w.heap.size+1+1+1) 4 (.bool false))∧((Below w.heap.size w W∧Boxed W (w.heap.size+1+1+1+1) 22 (.slice a len cap))∧(∀ i:El len,i∈pre→hitB ps pn ts tn i.1=false)))
  (fun c pre W=>((c=.ret∧∃ (p:List (El len)) (j:El len),pre=p++[j]∧hitB ps pn ts tn j.1=true∧(∀ i:El len,i∈p→hitB ps pn ts tn i.1=false)∧Boxed W (w.heap.size+1+1) 9 (.string (tx j.1)))∧Boxed W (w.heap.size+1+1+1) 4 (.bool true))∧Below w.heap.size w W)
  (OwnFrom.and (OwnFrom.and (OwnFrom.and (Own.from (aQa _ _ _) _) (Own.from (boxed_own _ _ _) _)) (Own.from (boxed_own _ _ _) _)) (OwnFrom.and (OwnFrom.and (ownFrom_below (Nat.le_refl _) (by omega)) (Own.from (boxed_own _ _ _) _)) (fun s X Y row hs hg hr=>hs)))
  (fun c=>OwnFrom.and (OwnFrom.and (fun s X Y row hs hg hr=>by
   obtain ⟨e,p,j,h1,h2,h3,h4⟩:=hs
   exact ⟨e,p,j,h1,h2,h3,boxed_own _ _ (fun (_:Unit)=>Value.string (tx j.1)) () X Y row h4 hg (fun r e=>(hr r e).2)⟩) (Own.from (boxed_own _ _ _) _)) (ownFrom_below (Nat.le_refl _) (by omega)))
  ⟨⟨⟨q1,q2⟩,q3⟩,⟨qb,q4⟩,by simp⟩
  (fun x a' W=>∃ Bx,w.heap.size+1+1+1<Bx∧Rowd W Bx 71 #[.int .i64 (ps x.1),.string (pn x.1),.slice (sa x.1) (sl x.1) (sc x.1)]∧a'={ tmps:=#[Value.agg #[f0,f1,f2,Value.slice a len cap,f4,f5,f6,f7],
   Value.agg #[Value.int IntKind.i64 ts,Value.string tn],
   Value.pointer (some { block:=w.heap.size,off:=0 }),
   Value.pointer (some { block:=w.heap.size+1,off:=0 }),
   Value.pointer (some { block:=w.heap.size+1+1,off:=0 }),
   Value.pointer (some { block:=w.heap.size+1+1+1,off:=0 }),undef,.pointer (some ⟨Bx,0,none⟩),
   Value.pointer (some { block:=w.heap.size,off:=3 }),Value.slice a len cap,
   Value.func (Fn.func 155) #[] #[Value.pointer (some { block:=w.heap.size+1+1+1+1,off:=0 })],
   .int .i64 (x.1:Int),.agg #[.int .i64 (ps x.1),.string (pn x.1),.slice (sa x.1) (sl x.1) (sc x.1)],undef,undef,undef,undef,undef,undef,undef],defers:=[] })
  (fun x a' _ X Y row hs hg hr=>by obtain ⟨Bx,h1,h2,h3⟩:=hs; exact ⟨Bx,h1,aQa Bx 71 (fun (_:Unit)=>_) () X Y row h2 hg (fun r e=>(hr r e).2),h3⟩)
  ?assign ?body ?done ?stop
 case assign =>
  rintro l pre x W K ⟨⟨⟨c1,c2⟩,c3⟩,⟨hB,c4⟩,hno⟩ hK
  have h4:=c4.lt
  gi_wp2
  exact hK _ _ ((KeepsOthers.alloc _ _).from _) ((Below.refl _ W).alloc (by omega) _) ⟨⟨⟨c1.kept (World.grownBy_alloc _ _ none) (by simp),c2.alloc _⟩,c3.alloc _⟩,⟨hB.alloc hB.size _,c4.alloc _⟩,hno⟩ ⟨W.heap.size,by omega,World.alloc_heap_new W _,rfl⟩
 case body =>
  rintro l pre x a' W hl ⟨r,hr⟩ ⟨⟨⟨c1,c2⟩,c3⟩,⟨hB,c4⟩,hno⟩ ⟨Bx,hBx,bX,rfl⟩ hlt
  have x0:W.cell? ⟨Bx,0,none⟩=some (.int .i64 (ps x.1)):=bX.cell (j:=0) rfl
  have x1:W.cell? ⟨Bx,1,none⟩=some (.string (pn x.1)):=bX.cell (j:=1) rfl
  have x2:W.cell? ⟨Bx,2,none⟩=some (.slice (sa x.1) (sl x.1) (sc x.1)):=bX.cell (j:=2) rfl
  have y0:W.cell? ⟨w.heap.size+1,0,none⟩=some (.int .i64 ts):=c1.cell (j:=0) rfl
  have y1:W.cell? ⟨w.heap.size+1,1,none⟩=some (.string tn):=c1.cell (j:=1) rfl
  have d2:=c2.cell
  have d3:=c3.cell
  have e2:=c2.frozen
  have e3:=c3.frozen
  have h1':1≤n-1-1:=by omega
  have hon:hitB ps pn ts tn x.1=false→∀ i:El len,i∈pre++[x]→hitB ps pn ts tn i.1=false:=fun h i hi=>by
   rcases List.mem_append.1 hi with hi | hi
   ·exact hno i hi
   ·rw [List.mem_singleton.1 hi]; exact h
  by_cases hp:ps x.1=ts
  ·by_cases hq:(pn x.1).toList=tn.toList
   ·have hh:hitB ps pn ts tn x.1=true:=by simp [hitB,hp,hq]
    have hc:=hcur x.1 x.2 l W hB
    rw [hp] at x0 hc
    gi_wp2
    refine hc.mono ?_
    rintro e w' ⟨⟨u0,u4,u5,u1,u2,rfl⟩,hw⟩
    have g2:Boxed w' (w.heap.size+1+1) 9 (.string ⟨#[]⟩):=(hw.block _ c2.lt).trans c2
    have g3:Boxed w' (w.heap.size+1+1+1) 4 (.bool false):=(hw.block _ c3.lt).trans c3
    have d2:=g2.cell
    have d3:=g3.cell
    have e2:=g2.frozen
    have e3:=g3.frozen
    gi_wp2
    have hk1:KeepsOthers W w':=⟨hw.size,fun k o hk ho=>(hw.block k (Array.getElem?_eq_some_iff.1 hk).1).trans hk⟩
    refine ⟨((hk1.trans (KeepsOthers.setCell _ _ _)).trans (KeepsOthers.setCell _ _ _)).from _,⟨⟨rfl,pre,x,rfl,hh,hno,?_⟩,?_⟩,?_⟩
    ·exact (g2.set _).other (by omega) _
    ·exact (g3.other (by omega) _).set _
    ·exact ((hB.trans (hw.mono hB.size)).setCell (p:=⟨w.heap.size+1+1,0,none⟩) (by simp; omega) _).setCell (p:=⟨w.heap.size+1+1+1,0,none⟩) (by simp; omega) _
   ·have hh:hitB ps pn ts tn x.1=false:=by simp [hitB,hq]
    gi_wp2
    exact ⟨KeepsFrom.refl _ _,Below.refl _ _,⟨⟨c1,c2⟩,c3⟩,⟨hB,c4⟩,hon hh⟩
  ·have hh:hitB ps pn ts tn x.1=false:=by simp [hitB,hp]
   gi_wp2
   exact ⟨KeepsFrom.refl _ _,Below.refl _ _,⟨⟨c1,c2⟩,c3⟩,⟨hB,c4⟩,hon hh⟩
 case done =>
  rintro D zs W hD hS ⟨⟨⟨c1,c2⟩,c3⟩,⟨hB,c4⟩,hno⟩ hK
  have d2:=c2.cell
  have d3:=c3.cell
  have e2:=c2.frozen
  have e3:=c3.frozen
  gi_wp2
  have hK2:((W.setCell ⟨w.heap.size+1+1,0,none⟩ (.string ⟨#[]⟩)).setCell ⟨w.heap.size+1+1+1,0,none⟩ (.bool false)).heap[D]?=some (.deferred (some [])) :=
   ((KeepsOthers.setCell _ _ _).trans (KeepsOthers.setCell _ _ _)).same D _ hK rfl
  have g2:=(c2.set (.string ⟨#[]⟩)).other (B':=w.heap.size+1+1+1) (by omega) (.bool false)
  have g3:=(c3.other (B':=w.heap.size+1+1) (by omega) (.string ⟨#[]⟩)).set (.bool false)
  have hf:(dwn len len).find? (hitB ps pn ts tn)=none:=by
   rw [← hS,List.find?_eq_none]
   intro i hi
   obtain ⟨e,he,rfl⟩:=List.mem_map.1 hi
   simp [hno e he]
  rw [hf]
  refine ⟨by simp,.inl ⟨_,_,rfl,run_takeDeferred hK2,?_⟩⟩
  exact ⟨_,res2 _ _ rfl rfl (cell_kept g2.cell (grownBy_putObj' _ D (.deferred none)) (fun r e=>by cases e; exact ⟨_,hK2,rfl⟩)) (cell_kept g3.cell (grownBy_putObj' _ D (.deferred none)) (fun r e=>by cases e; exact ⟨_,hK2,rfl⟩)),rfl,
   ((hB.setCell (p:=⟨w.heap.size+1+1,0,none⟩) (by simp; omega) _).setCell (p:=⟨w.heap.size+1+1+1,0,none⟩) (by simp; omega) _).trans (belowK_b (w:=w) (Nat.le_refl _) _ D _ _ (by omega) hK2 rfl rfl)⟩
 case stop =>
  rintro D c pre W hD ⟨k,hk,hpre⟩ ⟨⟨⟨rfl,p,j,hp,hj,hno,b2⟩,b3⟩,hB⟩ hK
  gi_wp2
  have hf:(dwn len len).find? (hitB ps pn ts tn)=some j.1:=by
   obtain ⟨m,hm⟩:=bFw hk
   rw [hm,← hpre,hp,List.map_append,List.append_assoc,List.find?_append]
   rw [List.find?_eq_none.2 (fun i hi=>by obtain ⟨e,he,rfl⟩:=List.mem_map.1 hi; simp [hno e he])]
   simp [hj]
  rw [hf]
  refine ⟨by simp,.inl ⟨_,_,rfl,run_takeDeferred hK,?_⟩⟩
  exact ⟨_,res2 _ _ rfl rfl (cell_kept b2.cell (grownBy_putObj' _ D (.deferred none)) (fun r e=>by cases e; exact ⟨_,hK,rfl⟩)) (cell_kept b3.cell (grownBy_putObj' _ D (.deferred none)) (fun r e=>by cases e; exact ⟨_,hK,rfl⟩)),rfl,
   hB.trans (belowK_b (w:=w) (Nat.le_refl _) W D _ _ (by omega) hK rfl rfl)⟩
open Go.Ab in
theorem aUj {P:Program} {D:Nat→Prop} {w W:World} (h:GIn P D w) (hb:Below w.heap.size w W):GIn P D W:=by
 refine ⟨fun x hx=>?_,fun x vs hv=>?_,h.2.2⟩
 ·obtain ⟨m,hm⟩:=h.1 x hx
  have hlt:x<w.heap.size:=by
   unfold World.cell? at hm
   split at hm
   ·rename_i hh; exact (Array.getElem?_eq_some_iff.1 hh).1
   ·cases hm
  exact ⟨m,(hb.cell (p:=⟨x,0,none⟩) hlt).trans hm⟩
 ·obtain ⟨h1,h2⟩:=h.2.1 x vs hv
  exact ⟨Nat.lt_of_lt_of_le h1 hb.size,fun j v hj=>(hb.cell (p:=⟨x,j,none⟩) h1).trans (h2 j v hj)⟩
def resS (q:Option Nat) (tx:Nat→List UInt8):List UInt8:=match q with
 | some j=>tx j
 | none=>[]
open Go.Ab in
theorem bIr {G:Ghost} {D:Nat→Prop} {w:World} {z:Nat} {es:List V} {v:Value} (h:Rep G D w (.lst z es) v):∃ a c,v=.slice a es.length c:=by cases h; exact ⟨_,_,rfl⟩
open Go.Ab in
theorem bH5 {G:Ghost} {D:Nat→Prop} {w:World} {l:List Rev} {v:Value} (h:Rep G D w (revV l) v):∀ r,r∈l→r.text.length<2^63:=by
 intro r hr
 obtain ⟨i,hi,rfl⟩:=List.mem_iff_getElem.1 hr
 unfold revV at h
 generalize hm:l.map Rev.v=m at h
 cases h with
 | lst _ _ a cap b o hc hl2 ha hz hs hr2=>exact (aBd (hr2 i 3 (.str l[i].text) (by rw [← hm]; simp [hi,Rev.v,V.cells]))).2
open Go.Ab in
theorem aYk (hc:∀ p:Sto,p.hist.length≤2^30→PTr Tryz.prog 72 [p.v] (curS p).v) (s:Stt) (t:Ttl) (hl:s.gone.length≤2^30) (hh:∀ p,p∈s.gone→p.hist.length≤2^30):∃ q k,PTr Tryz.prog 64 [s.v,tV t] (.tup [.str q,.bool k]):=by
 obtain ⟨n,hn⟩:∃ n,n=s.gone.length:=⟨_,rfl⟩
 obtain ⟨ps,hps⟩:∃ ps:Nat→Int,ps=fun i=>(s.gone.getD i zSto).t.1:=⟨_,rfl⟩
 obtain ⟨pn,hpn⟩:∃ pn:Nat→ByteArray,pn=fun i=>⟨(s.gone.getD i zSto).t.2.toArray⟩:=⟨_,rfl⟩
 obtain ⟨tx,htx⟩:∃ tx:Nat→List UInt8,tx=fun i=>(curS (s.gone.getD i zSto)).text:=⟨_,rfl⟩
 obtain ⟨r,hr⟩:∃ r,r=(dwn n n).find? (hitB ps pn t.1 ⟨t.2.toArray⟩):=⟨_,rfl⟩
 refine ⟨resS r tx,r.isSome,?_⟩
 intro D w vs hD hg hlen hrep
 obtain ⟨v0,v1,rfl,h0,h1⟩:=vs2 hlen hrep
 obtain ⟨a0,rfl,hs0,hr0⟩:=aCm h0
 obtain ⟨a1,rfl,hs1,hr1⟩:=aCm h1
 have e10:=aAy (hr1 0 _ rfl)
 have e11:=(aBd (hr1 1 _ rfl)).1
 have ea1:a1=#[.int .i64 t.1,.string ⟨t.2.toArray⟩]:=by
  apply Array.ext
  ·simpa [tCs] using hs1.symm
  ·intro i h1 h2
   have:i=0∨i=1:=by simp at h2; omega
   rcases this with rfl | rfl
   ·simpa [h1] using e10
   ·simpa [h1] using e11
 subst ea1
 obtain ⟨l0⟩:=a0
 obtain ⟨f0,f1,f2,f3,f4,f5,f6,f7,rfl⟩:∃ f0 f1 f2 f3 f4 f5 f6 f7,l0=[f0,f1,f2,f3,f4,f5,f6,f7]:=by
  match l0,hs0 with
  | [f0,f1,f2,f3,f4,f5,f6,f7],_=>exact ⟨_,_,_,_,_,_,_,_,rfl⟩
 have h3:=hr0 3 _ rfl
 have hlm:(s.gone.map Sto.v).length=n:=by rw [hn]; exact List.length_map ..
 obtain ⟨a,cap,b,o,ef,ha,hs,hre⟩:∃ a cap b o,f3=.slice a n cap∧(0<n→a=some ⟨b,o,none⟩∧b<w.heap.size∧¬ D b)∧(∀ i j c,((s.gone.map Sto.v)[i]?.bind fun e=>e.cells[j]?)=some c→(w.cell? ⟨b,o+i*3+j,none⟩).isSome=true)∧(∀ i j c,((s.gone.map Sto.v)[i]?.bind fun e=>e.cells[j]?)=some c→Rep (fun _=>none) D w c (aCg w b (o+i*3+j))):=by
  simp only [stoV] at h3
  generalize hf:(#[f0,f1,f2,f3,f4,f5,f6,f7]:Array Value).getD 3 undef=q at h3
  obtain rfl:f3=q:=hf
  generalize hm:s.gone.map Sto.v=m at h3 hlm ⊢
  cases h3 with
  | lst _ _ a cap b o hc hl2 ha hz hs hr2=>subst hlm; exact ⟨a,cap,b,o,rfl,ha,hs,hr2⟩
 subst ef
 have hcell:∀ i,i<n→∀ j c,(s.gone.getD i zSto).v.cells[j]?=some c→∃ v,w.cell? ⟨b,o+i*3+j,none⟩=some v∧Rep (fun _=>none) D w c v:=by
  intro i hi j c hc
  have hb2:((s.gone.map Sto.v)[i]?.bind fun e=>e.cells[j]?)=some c:=by
   have:i<s.gone.length:=by omega
   simpa [this,List.getD_eq_getElem?_getD] using hc
  have h1:=hs i j c hb2
  have h2:=hre i j c hb2
  unfold aCg at h2
  cases hq:w.cell? ⟨b,o+i*3+j,none⟩ with
  | none=>rw [hq] at h1; cases h1
  | some y=>rw [hq] at h2; exact ⟨y,rfl,h2⟩
 have hmem:∀ i,i<n→s.gone.getD i zSto∈s.gone:=fun i hi=>by
  rw [List.getD_eq_getElem?_getD,List.getElem?_eq_getElem (by omega)]; exact List.getElem_mem _
 have hsl:∀ i,i<n→∃ x:Option Addr×Nat×Nat,w.cell? ⟨b,o+i*3+2,none⟩=some (.slice x.1 x.2.1 x.2.2)∧Rep (fun _=>none) D w (revV (s.gone.getD i zSto).hist) (.slice x.1 x.2.1 x.2.2):=by
  intro i hi
  obtain ⟨v,h1,h2⟩:=hcell i hi 2 _ rfl
  obtain ⟨a,c,rfl⟩:=bIr h2
  exact ⟨(a,_,c),h1,h2⟩
 obtain ⟨f,hf⟩:∃ f:Nat→Option Addr×Nat×Nat,∀ i,i<n→w.cell? ⟨b,o+i*3+2,none⟩=some (.slice (f i).1 (f i).2.1 (f i).2.2)∧Rep (fun _=>none) D w (revV (s.gone.getD i zSto).hist) (.slice (f i).1 (f i).2.1 (f i).2.2) :=
  ⟨fun i=>if h:i<n then Classical.choose (hsl i h) else default,fun i h=>by
   simp only [h,dif_pos]; exact Classical.choose_spec (hsl i h)⟩
 have hci:∀ i,i<n→w.cell? ⟨b,o+i*3,none⟩=some (.int .i64 (ps i)):=fun i hi=>by
  obtain ⟨v,h1,h2⟩:=hcell i hi 0 _ rfl
  rw [aAy h2] at h1
  rw [hps]; exact h1
 have hcs:∀ i,i<n→w.cell? ⟨b,o+i*3+1,none⟩=some (.string (pn i))∧(s.gone.getD i zSto).t.2.length<2^63:=fun i hi=>by
  obtain ⟨v,h1,h2⟩:=hcell i hi 1 _ rfl
  rw [(aBd h2).1] at h1
  rw [hpn]; exact ⟨h1,(aBd h2).2⟩
 refine (callsIn_wide (n:=6)).1 ((bC0 Fence.wide 6 trivial trivial trivial trivial rfl (by omega) b o n cap a (fun h=>(ha h).1) ps pn (fun i=>(f i).1) (fun i=>(f i).2.1) (fun i=>(f i).2.2) (fun i=>⟨(tx i).toArray⟩) (by omega) t.1 ⟨t.2.toArray⟩ f0 f1 f2 f4 f5 f6 f7 w (fun h=>(ha h).2.1) (fun i hi=>⟨hci i hi,(hcs i hi).1,(hf i hi).1⟩) ?_).mono ?_)
 ·intro i hi l W hW
  have hk:=hc (s.gone.getD i zSto) (hh _ (hmem i hi)) D W #[.agg #[.int .i64 (ps i),.string (pn i),.slice (f i).1 (f i).2.1 (f i).2.2]] (fun b hb=>Nat.lt_of_lt_of_le (hD b hb) hW.size) (aUj hg hW) rfl (fun j x hx=>by
   match j,hx with
   | 0,hx =>
     simp only [List.getElem?_cons_zero,Option.some.injEq] at hx
     subst hx
     refine .agg _ _ rfl fun m c hc=>?_
     match m,hc with
     | 0,hc=>cases hc; rw [hps]; exact .int _ _
     | 1,hc=>cases hc; rw [hpn]; exact .str _ (hcs i hi).2
     | 2,hc=>cases hc; exact (hf i hi).2.mono (Ghost.le_refl _) (fun _ _ h=>h) ⟨hW.size,fun k hk _=>hW.block k hk⟩
     | m+3,hc=>cases hc
   | j+1,hx=>cases hx)
  refine (((callsIn_wide (n:=3)).2 hk).inRound l).mono ?_
  rintro e W' ⟨v,rfl,hB,hv⟩
  refine ⟨?_,hB⟩
  obtain ⟨vs,rfl,hn1,hv2⟩:=aCm hv
  obtain ⟨lv⟩:=vs
  match lv,hn1 with
  | [g0,g1,g2,g3,g4,g5],_ =>
    have k0:=aAy (hv2 0 _ rfl)
    have k1:=(aBd (hv2 1 _ rfl)).1
    have k2:=(aBd (hv2 2 _ rfl)).1
    have k3:=(aBd (hv2 3 _ rfl)).1
    have k4:=aAy (hv2 4 _ rfl)
    have k5:=aAy (hv2 5 _ rfl)
    simp at k0 k1 k2 k3 k4 k5
    subst k0 k1 k2 k3 k4 k5
    rw [htx]
    exact ⟨_,_,_,_,_,rfl⟩
 ·rintro e W' ⟨rfl,hB⟩
  rw [← hr]
  refine ⟨_,rfl,hB,.tup _ _ ?_ ?_⟩
  ·cases r <;> rfl
  ·intro i c hc
   cases hr2:r with
   | none =>
     rw [hr2] at hc
     match i,hc with
     | 0,hc=>cases hc; exact .str [] (by simp)
     | 1,hc=>cases hc; exact .bool _
     | i+2,hc=>cases hc
   | some j =>
     have hj:j<n:=by
      have:=List.mem_of_find?_eq_some (hr.symm.trans hr2)
      unfold dwn at this
      obtain ⟨m,hm,rfl⟩:=List.mem_map.1 this
      have:=List.mem_range.1 hm
      omega
     have hlt:(tx j).length<2^63:=by
      rw [htx]
      show (curS (s.gone.getD j zSto)).text.length<2^63
      unfold curS
      cases hq:(s.gone.getD j zSto).hist.getLast? with
      | none=>simp [zRev]
      | some q=>exact bH5 (hf j hj).2 q (List.mem_of_getLast? hq)
     rw [hr2] at hc
     match i,hc with
     | 0,hc=>cases hc; exact .str _ hlt
     | 1,hc=>cases hc; exact .bool _
     | i+2,hc=>cases hc
end Go.Proofs.YtikmbicdjpkipaaGreatDoor
