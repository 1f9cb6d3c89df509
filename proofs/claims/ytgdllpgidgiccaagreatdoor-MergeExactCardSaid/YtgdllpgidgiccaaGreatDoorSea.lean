/- What the statements of this seat share: its functions' contracts. No condition. -/
import Derived.Test.YtgdllpgidgiccaaGreatDoorRows
import Derived.Test.YtgdllpgidgiccaaGreatDoorFns
import Derived.Test.YtgdllpgidgiccaaGreatDoorShelf
import Derived.Test.YtgdllpgidgiccaaGreatDoorAbK4
import Derived.Test.YtgdllpgidgiccaaGreatDoorAbN1
import Derived.Test.YtgdllpgidgiccaaGreatDoorAbM9
import Derived.Test.YtgdllpgidgiccaaGreatDoorAbZ4
import Derived.Test.YtgdllpgidgiccaaGreatDoorAbR5
import Derived.Shelf.Strings.SlTrimAscii
import Derived.WalkKit
import Derived.ProofKit
import Derived.OpenShut
import Derived.JoinedCond
import Derived.HandedShaped
import Derived.Handed
import Derived.LaidMore
import Derived.Lay
import Derived.Stop.Joined
import Derived.Lib.Walk
import Derived.Lib.SliceRun
import Derived.Lib.JoinLaws
import Derived.Lib.AppendZeros
import Derived.Lib.AppendZerosOnto
import Derived.Laws.Externs
import Derived.Laws.IdiomCopy
import Derived.Shelf.RegionOpenPlain
set_option linter.unusedVariables false
namespace Go.Proofs
open Go.RowKit Go.Lib
theorem aDt {P:Program} (w:World) (dT sT ty elem:TypeId) (b o dLen dCap:Nat) (a:Addr) (sLen sCap k:Nat) (cs:List Value)
 (hu:P.underlying dT=some (.slice elem)) (hs:(P.info? elem).map (·.size)=some k) (hn:cs.length=Nat.min sLen dLen*k)
 (hsrc:∀ j v,cs[j]?=some v→w.cell? (a.add j)=some v) (hc:∀ j,j<cs.length→(w.cell? ⟨b,o+j,none⟩).isSome=true) (hf:∀ j,j<cs.length→w.frozen? ⟨b,o+j,none⟩=false) (h1:∀ v∈cs,v.oneCell'=true) :
 (Builtin.copy_ #[dT,sT] ty #[.slice (some ⟨b,o,none⟩) dLen dCap,.slice (some a) sLen sCap]).run P w=.ok (goInt (Nat.min sLen dLen)) (w.setCells b o cs):=by
 have hl:=run_loadCells_list (P:=P) w a cs hsrc
 have hst:=run_storeCells_cells (P:=P) b o cs 0 w (by simpa using hc) (by simpa using hf) h1
 rw [hn] at hl
 cases hq:P.info? elem with
 | none=>simp [hq] at hs
 | some i =>
   have hi:i.size=k:=by simpa [hq] using hs
   simp [Builtin.copy_,run_underlying hu,Builtin.lenOf,Builtin.firstCells,sizeOf,typeInfo,hq,hi,hl,hst]
theorem aUt:(Tryz.prog.info? 54).map (fun i=>(i.zero,i.size,i.bytes))=some (some (.agg #[.string ByteArray.empty,.int .i64 0,.string ByteArray.empty]),3,40):=by kernel_rfl
set_option maxHeartbeats 4000000 in
set_option maxRecDepth 100000 in
theorem aQy (b off n c vb voff vc:Nat) (vs:List Value) (w:World) (hroom:n+1≤c) (hc63:c≤9223372036854775807)
 (hvl:vs.length=3) (hsp:∀ j,j<3→(w.cell? ⟨b,off+n*3+j,none⟩).isSome=true) (hfz:∀ j,j<3→w.frozen? ⟨b,off+n*3+j,none⟩=false)
 (hvs:∀ j v,vs[j]?=some v→w.cell? ⟨vb,voff+j,none⟩=some v) (h1v:∀ v∈vs,v.oneCell'=true) :
 Calls Tryz.prog 63 #[.slice (some ⟨b,off,none⟩) n c,.int .i64 n,.slice (some ⟨vb,voff,none⟩) 1 vc] w fun e w' =>
  e=.returned (.slice (some ⟨b,off,none⟩) (n+1) c)∧w'=w.setCells b (off+n*3) vs:=by
 obtain ⟨i0,hi,hz0,hzs,hzb⟩:=info_parts aUt
 have hsrc:Src Tryz.prog i0.size 27 (.slice (some ⟨vb,voff,none⟩) 1 vc) 1 vs w:=Src.ofSlice w Tryz.underlying27 ⟨vb,voff,none⟩ 1 vc vs (by rw [hzs]; omega) (fun j u hj=>by rw [Addr.add_lit]; exact hvs j u hj) h1v
 go_enter Tryz.func63,Tryz.ntmps63
 go_wp2_with (at_builtin; refine wpList_append_room_src _ rfl _ _ 27 27 rfl 54 i0 Tryz.underlying27 hi b off n c rfl _ rfl 1 vs hsrc hroom (by rw [hvl,hzs]; exact hsp) (by rw [hvl,hzs]; exact hfz) ?_; rw [hzs])
 go_ret
 exact ⟨rfl,rfl⟩
set_option maxHeartbeats 4000000 in
set_option maxRecDepth 100000 in
theorem aQv (b off n c vb voff vc:Nat) (cs vs:List Value) (w:World) (hnc:n≤c) (hroom:c<n+1) (hbig:(n+1)*40≤140737488355328)
 (hcl:cs.length=n*3) (hvl:vs.length=3)
 (hcs:∀ j v,cs[j]?=some v→w.cell? ⟨b,off+j,none⟩=some v)
 (hvs:∀ j v,vs[j]?=some v→w.cell? ⟨vb,voff+j,none⟩=some v) (h1v:∀ v∈vs,v.oneCell'=true) :
 Calls Tryz.prog 63 #[.slice (some ⟨b,off,none⟩) n c,.int .i64 n,.slice (some ⟨vb,voff,none⟩) 1 vc] w fun e w' =>
  e=.returned (.slice (some ⟨w.heap.size,0,none⟩) (n+1) (grownCap w (n+1) c 54)) ∧
  w'=w.drew.alloc (.cells ((cs++vs).toArray++Builtin.zeroCells (Value.agg #[.string ByteArray.empty,.int .i64 0,.string ByteArray.empty]).cells (grownCap w (n+1) c 54-(n+1))) 54):=by
 obtain ⟨i0,hi,hz0,hzs,hzb⟩:=info_parts aUt
 have hsrc:Src Tryz.prog i0.size 27 (.slice (some ⟨vb,voff,none⟩) 1 vc) 1 vs w:=Src.ofSlice w Tryz.underlying27 ⟨vb,voff,none⟩ 1 vc vs (by rw [hzs]; omega) (fun j u hj=>by rw [Addr.add_lit]; exact hvs j u hj) h1v
 have hold:(Builtin.firstCells i0.size n (.slice (some ⟨b,off,none⟩) n c)).run Tryz.prog w.drew=.ok cs.toArray w.drew:=by
  rw [hzs]
  exact run_firstCells_some w.drew 3 n ⟨b,off,none⟩ n c cs hcl (fun j v hj=>by rw [Addr.add_lit]; exact hcs j v hj)
 have hrun:∀ ty,(Builtin.append_ #[27,27] ty #[.slice (some ⟨b,off,none⟩) n c,.slice (some ⟨vb,voff,none⟩) 1 vc]).run Tryz.prog w=_:=fun ty =>
  run_append_grow_src w 27 27 ty 54 i0 _ Tryz.underlying27 hi hz0 (some ⟨b,off,none⟩) n c cs hold _ 1 vs hsrc hroom (by omega) (by rw [hzb]; exact growslice_fits hroom hbig)
 go_enter Tryz.func63,Tryz.ntmps63
 go_wp2_with (at_builtin; refine Lib.wpList_append_run _ rfl _ _ _ _ rfl _ _ rfl rfl _ _ (hrun _) ?_)
 all_goals go_ret
 all_goals exact ⟨rfl,rfl⟩
theorem aGo (b:Nat) (vs:List Value) (o:Nat) (w:World) (h:∀ j,j<vs.length→(w.cell? ⟨b,o+j,none⟩).isSome=true) (k:Nat) (hk:(w.cell? ⟨b,k,none⟩).isSome=true):((w.setCells b o vs).cell? ⟨b,k,none⟩).isSome=true:=by
 by_cases hin:o≤k∧k<o+vs.length
 ·have:=World.cell?_setCells_in b vs o w h (k-o) (by omega)
  rw [show o+(k-o)=k by omega] at this
  rw [this]; rfl
 ·rw [World.cell?_setCells_out b vs o w ⟨b,k,none⟩ (fun _ _=>by show k<o∨o+vs.length≤k; omega)]
  exact hk
theorem aPx {P:Program} (w:World) {o:Oper} {a:Act} {K:Act→World→Prop} {Q:Exit→Act→World→Prop} (d s:Operand) (t t':TypeId)
 (ho:o.op=.call { callee:=.builtin .copy,args:=#[d,s],argTypes:=#[t,t'] }) (v u:Value) (hd:a.eval d=v) (hs:a.eval s=u) {v':Value} {w':World}
 (hr:(Builtin.copy_ #[t,t'] o.type #[v,u]).run P w=.ok v' w') (h:K (a.put o.dst v') w'):o.wp P a w K Q:=by
 unfold Oper.wp execOp
 simp only [ho,resolve,invoke,builtin,Sem.run_bind,Sem.run_pure,Result.andThen_ok,List.map_toArray,List.map_cons,List.map_nil,hd,hs,hr]
 exact h
theorem aEp {P:Program} (w:World) {ops:Array Oper} {rest:List Oper} {o:Oper} {a:Act} {Q:Exit→Act→World→Prop} (hgd:o.guard=none) (d s:Operand) (t t':TypeId)
 (ho:o.op=.call { callee:=.builtin .copy,args:=#[d,s],argTypes:=#[t,t'] }) (v u:Value) (hd:a.eval d=v) (hs:a.eval s=u) {v':Value} {w':World}
 (hr:(Builtin.copy_ #[t,t'] o.type #[v,u]).run P w=.ok v' w') (h:wpList P ops Q rest (a.put o.dst v') w'):wpList P ops Q (o::rest) a w :=
 wpList_plain hgd fun _ hK=>aPx w d s t t' ho v u hd hs hr (hK _ _ h)
theorem aHq {P:Program} {ops:Array Oper} {o:Oper} {a:Act} {w:World} {K:Act→World→Prop} {Q:Exit→Act→World→Prop} {E:Prop}
 (hg:o.guard=none) (d x:Operand) (dT sT:TypeId) (hop:o.op=Op.call { callee:=Callee.builtin Builtin.copy,args:=#[d,x],argTypes:=#[dT,sT] })
 (v u:Value) (hd:a.eval d=v) (hx:a.eval x=u) {v':Value} {w':World} (hr:(Builtin.copy_ #[dT,sT] o.type #[v,u]).run P w=.ok v' w') (hK:K (a.put o.dst v') w') :
 if Region.wanted o (yielded ops a.tmps)=true then Oper.wp P o a w K Q else E:=by
 have hw:Region.wanted o (yielded ops a.tmps)=true:=by simp [Region.wanted,hg]
 rw [if_pos hw]
 unfold Oper.wp
 simp [execOp,hop,resolve,invoke,builtin,hd,hx,hr,Result.andThen]
 exact hK
theorem aIa {P:Program} (w:World) (tS tR e:TypeId) (ht:P.underlying tS=some (.slice e)) (size:Nat) (hz:∀ w,(Go.sizeOf e).run P w=.ok size w)
 (a b:Addr) (la ca lb cb:Nat) (hne:a.block≠b.block) (tA tB:TypeId) (kA kB:Nat)
 (hsa:w.shape? a.block=some (tA,kA)) (hsb:w.shape? b.block=some (tB,kB)) (hkA:kA≠0) (hkB:kB≠0)
 (hfb:w.frozen? b=false) (hfe:w.frozen? { block:=b.block,off:=kB }=false) :
 (Extern.SlicesOverlaps.overlaps #[tS,tS] #[tR] #[.slice (some a) la ca,.slice (some b) lb cb]).run P w=.ok (.bool false) w:=by
 have hnb:(a.block != b.block)=true:=by simpa using hne
 have hnb':(a.block==b.block)=false:=by simpa using hne
 change Sem.run P (α:=Value) (do
  let some t := (#[tS, tS] : Array TypeId)[0]? | stuck "slices.overlaps: no parameter types"
  let .slice elem ← underlying t | stuck "slices.overlaps: slice type expected"
  let size ← sizeOf elem
  match (some a:Option Addr),(some b:Option Addr) with
  | some a,some b =>
    if la=0∨lb=0∨size=0 then pure (Value.bool false)
    else if a.block != b.block&&(← frozen a)&&(← frozen b) then unsupported .addressObserved
    else do
     if a.block != b.block then do
      noView a; noView b
      if ← mayBeOne a b then return Value.bool ((← choose (.extern "sameAddr.stringBytes" 2)) == 1)
     pure (Value.bool (a.block==b.block&&a.off<b.off+lb*size&&b.off<a.off+la*size))
  | _,_=>pure (Value.bool false)) w=_
 by_cases h0:la=0∨lb=0∨size=0
 ·simp [run_underlying ht,hz,h0]
 ·obtain ⟨kA,rfl⟩:∃ k,kA=k+1:=⟨kA-1,by omega⟩
  obtain ⟨kB,rfl⟩:∃ k,kB=k+1:=⟨kB-1,by omega⟩
  cases h1:w.frozen? a <;> cases h2:w.frozen? { block:=a.block,off:=kA+1 } <;>
   simp [run_underlying ht,hz,h0,hnb,hnb',frozen,noView,viewAt,mayBeOne,stringish,shape,Sem.run,hsa,hsb,hfb,hfe,h1,h2]
set_option maxHeartbeats 4000000 in
set_option maxRecDepth 100000 in
theorem aYg (b off n c i vb voff vc:Nat) (cs vs:List Value) (w:World) (hi:i<n) (hroom:n+1≤c) (hc63:c≤9223372036854775807) (hvb:vb≠b)
 (hcl:cs.length=n*3) (hvl:vs.length=3)
 (hcs:∀ j v,cs[j]?=some v→w.cell? ⟨b,off+j,none⟩=some v) (hsp:∀ j,j<(n+1)*3→(w.cell? ⟨b,off+j,none⟩).isSome=true) (hfz:∀ j,j<(n+1)*3→w.frozen? ⟨b,off+j,none⟩=false)
 (hvs:∀ j v,vs[j]?=some v→w.cell? ⟨vb,voff+j,none⟩=some v) (h1c:∀ v∈cs,v.oneCell'=true) (h1v:∀ v∈vs,v.oneCell'=true)
 (tA tB:TypeId) (kA kB:Nat) (hsa:w.shape? vb=some (tA,kA)) (hsb:w.shape? b=some (tB,kB)) (hkA:kA≠0) (hkB:kB≠0) (hfe:w.frozen? ⟨b,kB,none⟩=false) :
 Calls Tryz.prog 63 #[.slice (some ⟨b,off,none⟩) n c,.int .i64 i,.slice (some ⟨vb,voff,none⟩) 1 vc] w fun e w' =>
  e=.returned (.slice (some ⟨b,off,none⟩) (n+1) c)∧w'=(w.drew.setCells b (off+(i+1)*3) (cs.drop (i*3))).setCells b (off+i*3) vs:=by
 have hz2:¬ ((i:Int)=(n:Int)):=by omega
 have hb1:(0:Int)≤(i:Int)+1:=by omega
 have hin:i≤n:=by omega
 have htn:((i:Int)+1).toNat=i+1:=by omega
 have hb2:¬ (c=i+1):=by omega
 have hb3:(i:Int)≤(n:Int)+1:=by omega
 have hb4:¬ (c=i):=by omega
 have mixed:Tryz.prog.follows .mixedOrders=true:=by kernel_rfl
 have hsz:(Tryz.prog.info? 54).map (·.size)=some 3:=by
  obtain ⟨i0,hi0,h0,h1,h2⟩:=info_parts aUt
  rw [hi0]; simp [h1]
 have hov:∀ lb cb,(callFunc 85 #[.slice (some ⟨vb,voff,none⟩) 1 vc,.slice (some ⟨b,off+(i+1)*3,none⟩) lb cb]).run Tryz.prog w=.ok (.value (.bool false)) w:=fun lb cb=>by
  rw [run_callFunc_extern Tryz.func85 (by kernel_rfl) (by kernel_rfl) (by kernel_rfl) (e:=Extern.SlicesOverlaps.overlaps #[27,27] #[4]) (by kernel_rfl),
   aIa w 27 4 54 Tryz.underlying27 3 Tryz.sizeOf54 ⟨vb,voff,none⟩ ⟨b,off+(i+1)*3,none⟩ 1 vc lb cb hvb tA tB kA kB hsa hsb hkA hkB (hfz _ (by omega)) hfe]
  rfl
 have hdl:(cs.drop (i*3)).length=(n-i)*3:=by rw [List.length_drop,hcl]; omega
 have hw1:IntKind.i64.wrap ((i:Int)+1)=(i:Int)+1:=by rw [IntKind.wrap_i64]; omega
 have hcp1:∀ ty dc sc,(Builtin.copy_ #[27,27] ty #[.slice (some ⟨b,off+(i+1)*3,none⟩) (n-i) dc,.slice (some ⟨b,off+i*3,none⟩) (n+1-i) sc]).run Tryz.prog w.drew=.ok (goInt (n-i:Nat)) (w.drew.setCells b (off+(i+1)*3) (cs.drop (i*3))):=fun ty dc sc=>by
  have:=aDt (P:=Tryz.prog) w.drew 27 27 ty 54 b (off+(i+1)*3) (n-i) dc ⟨b,off+i*3,none⟩ (n+1-i) sc 3 (cs.drop (i*3)) Tryz.underlying27 hsz (by rw [hdl]; simp only [Nat.min_def]; split <;> omega)
   (fun j v hj=>by rw [Addr.add_lit,Nat.add_assoc]; exact hcs (i*3+j) v (by rwa [List.getElem?_drop] at hj))
   (fun j hj=>by rw [Nat.add_assoc]; exact hsp _ (by omega)) (fun j hj=>by rw [Nat.add_assoc]; exact hfz _ (by omega)) (fun v hv=>h1c v (List.mem_of_mem_drop hv))
  rw [show Nat.min (n+1-i) (n-i)=n-i by simp only [Nat.min_def]; split <;> omega] at this
  exact this
 obtain ⟨W1,hW1⟩:∃ W1,W1=w.drew.setCells b (off+(i+1)*3) (cs.drop (i*3)):=⟨_,rfl⟩
 have hsp1:∀ k,k<(n+1)*3→(W1.cell? ⟨b,off+k,none⟩).isSome=true:=fun k hk=>by
  rw [hW1]
  exact aGo b _ _ _ (fun j hj=>by rw [Nat.add_assoc]; exact hsp _ (by omega)) _ (hsp k hk)
 have hcp2:∀ (W:World),(∀ x,W.cell? x=W1.cell? x)→(∀ x,W.frozen? x=W1.frozen? x)→∀ ty dc,(Builtin.copy_ #[27,27] ty #[.slice (some ⟨b,off+i*3,none⟩) (n+1-i) dc,.slice (some ⟨vb,voff,none⟩) 1 vc]).run Tryz.prog W=.ok (goInt (1:Nat)) (W.setCells b (off+i*3) vs):=fun W hWc hWf ty dc=>by
  have:=aDt (P:=Tryz.prog) W 27 27 ty 54 b (off+i*3) (n+1-i) dc ⟨vb,voff,none⟩ 1 vc 3 vs Tryz.underlying27 hsz (by rw [hvl]; simp only [Nat.min_def]; split <;> omega)
   (fun j v hj=>by
    rw [Addr.add_lit,hWc,hW1,World.cell?_setCells_out b _ _ _ _ (fun h _=>absurd h hvb)]
    exact hvs j v hj)
   (fun j hj=>by rw [hWc,Nat.add_assoc]; exact hsp1 _ (by omega)) (fun j hj=>by rw [hWf,hW1,World.frozen?_setCells,Nat.add_assoc]; exact hfz _ (by omega)) h1v
  rw [show Nat.min 1 (n+1-i)=1 by simp only [Nat.min_def]; split <;> omega] at this
  exact this
 rw [← hW1] at hcp1
 go_enter Tryz.func63,Tryz.ntmps63
 go_wp2_with (simp only [hov])
 go_region_law_o (refine aHq rfl _ _ 27 27 rfl _ _ (by simp [Act.eval,Act.put]) (by simp [Act.eval,Act.put]) (hcp1 _ _ _) ?_)
 go_wp2_with (at_builtin; refine aEp _ rfl _ _ 27 27 rfl _ _ rfl rfl (hcp2 _ (fun _=>rfl) (fun _=>rfl) _ _) ?_)
 go_ret
 first | exact ⟨rfl,rfl⟩ | exact ⟨rfl,by rw [hW1]⟩
set_option maxHeartbeats 4000000 in
set_option maxRecDepth 100000 in
theorem bCq (b off n c i vb voff vc:Nat) (cs vs:List Value) (w:World) (hi:i<n) (hnc:n≤c) (hroom:c<n+1) (hbig:(n+1)*40≤140737488355328)
 (hcl:cs.length=n*3) (hvl:vs.length=3)
 (hcs:∀ j v,cs[j]?=some v→w.cell? ⟨b,off+j,none⟩=some v)
 (hvs:∀ j v,vs[j]?=some v→w.cell? ⟨vb,voff+j,none⟩=some v) (h1c:∀ v∈cs,v.oneCell'=true) (h1v:∀ v∈vs,v.oneCell'=true) :
 Calls Tryz.prog 63 #[.slice (some ⟨b,off,none⟩) n c,.int .i64 i,.slice (some ⟨vb,voff,none⟩) 1 vc] w fun e w' =>
  e=.returned (.slice (some ⟨w.heap.size,0,none⟩) (n+1) (grownCap w (n+1) c 54)) ∧
  w'=(((w.alloc (.cells ((cs.take (i*3)).toArray++Builtin.zeroCells (Value.agg #[.string ByteArray.empty,.int .i64 0,.string ByteArray.empty]).cells (n+1-i)++Builtin.zeroCells (Value.agg #[.string ByteArray.empty,.int .i64 0,.string ByteArray.empty]).cells (grownCap w (n+1) c 54-(n+1))) 54)).drew.setCells w.heap.size (i*3) vs).drew).setCells w.heap.size ((i+1)*3) (cs.drop (i*3)):=by
 have mixed:Tryz.prog.follows .mixedOrders=true:=by kernel_rfl
 obtain ⟨i0,hi0,hz0,hzs,hzb⟩:=info_parts aUt
 have hz2:¬ ((i:Int)=(n:Int)):=by omega
 have hz3:(c:Int)<(n:Int)+1:=by omega
 have hsz:(Tryz.prog.info? 54).map (·.size)=some 3:=by rw [hi0]; simp [hzs]
 have hbw:b<w.heap.size:=block_lt_of_cell (hcs 0 _ (List.getElem?_eq_getElem (by omega)))
 have hvw:vb<w.heap.size:=block_lt_of_cell (hvs 0 _ (List.getElem?_eq_getElem (by omega)))
 have hkk:(n:Int)+1-(i:Int)=((n+1-i:Nat):Int):=by omega
 have hik:i+(n+1-i)=n+1:=by omega
 have hold:(Builtin.firstCells i0.size i (.slice (some ⟨b,off,none⟩) i c)).run Tryz.prog w.drew=.ok (cs.take (i*3)).toArray w.drew:=by
  rw [hzs]
  exact run_firstCells_some w.drew 3 i ⟨b,off,none⟩ i c (cs.take (i*3)) (by rw [List.length_take]; omega) (fun j v hj=>by
   rw [Addr.add_lit]
   rw [List.getElem?_take] at hj
   split at hj
   ·exact hcs j v hj
   ·cases hj)
 have hrz:∀ ty,(Builtin.append_ #[27,3] ty #[.slice (some ⟨b,off,none⟩) i c,.int .i64 ((n:Int)+1-(i:Int))]).run Tryz.prog w =
  .ok (.slice (some ⟨w.heap.size,0,none⟩) (n+1) (grownCap w (n+1) c 54)) (w.drew.alloc (.cells ((cs.take (i*3)).toArray++Builtin.zeroCells (Value.agg #[.string ByteArray.empty,.int .i64 0,.string ByteArray.empty]).cells (n+1-i)++Builtin.zeroCells (Value.agg #[.string ByteArray.empty,.int .i64 0,.string ByteArray.empty]).cells (grownCap w (n+1) c 54-(n+1))) 54)):=fun ty=>by
  have h:=Lib.run_append_grow_zeros w 27 3 ty 54 i0 _ .i64 .i64 Tryz.underlying27 Tryz.underlying3 hi0 hz0 (some ⟨b,off,none⟩) i c (cs.take (i*3)) hold (n+1-i) (by omega) (by omega) (by omega) (by omega) (by rw [hzb]; omega) (by rw [hzb,hik]; exact growslice_fits hroom hbig)
  rw [hik] at h
  rw [hkk]
  exact h
 obtain ⟨G,hG⟩:∃ G,G=grownCap w (n+1) c 54:=⟨_,rfl⟩
 obtain ⟨ROW,hROW⟩:∃ ROW:Array Value,ROW=(cs.take (i*3)).toArray++Builtin.zeroCells (Value.agg #[.string ByteArray.empty,.int .i64 0,.string ByteArray.empty]).cells (n+1-i)++Builtin.zeroCells (Value.agg #[.string ByteArray.empty,.int .i64 0,.string ByteArray.empty]).cells (G-(n+1)):=⟨_,rfl⟩
 rw [← hG] at hrz ⊢
 rw [← hROW] at hrz ⊢
 have hRl:(n+1)*3≤ROW.size:=by
  rw [hROW]
  simp [Builtin.zeroCells,Value.cells]
  omega
 obtain ⟨W1,hW1⟩:∃ W1,W1=w.drew.alloc (.cells ROW 54):=⟨_,rfl⟩
 rw [← hW1] at hrz
 have hN:∀ j,j<(n+1)*3→(W1.cell? ⟨w.heap.size,j,none⟩).isSome=true:=fun j hj=>by
  rw [hW1,World.cell?_alloc_at (w:=w.drew) ROW _ w.heap.size j rfl,Array.getElem?_eq_getElem (by omega)]; rfl
 have hNf:∀ j,W1.frozen? ⟨w.heap.size,j,none⟩=false:=fun j=>by rw [hW1]; exact World.frozen?_alloc_at (w:=w.drew) ROW _ w.heap.size j rfl
 have hOb:∀ j v,w.cell? ⟨b,j,none⟩=some v→W1.cell? ⟨b,j,none⟩=some v:=fun j v h=>by rw [hW1,World.cell?_alloc_past (w:=w.drew) _ b j hbw]; exact h
 have hOv:∀ j v,w.cell? ⟨vb,j,none⟩=some v→W1.cell? ⟨vb,j,none⟩=some v:=fun j v h=>by rw [hW1,World.cell?_alloc_past (w:=w.drew) _ vb j hvw]; exact h
 have hcpA:∀ (W:World),(∀ x,W.cell? x=W1.cell? x)→(∀ x,W.frozen? x=W1.frozen? x)→∀ ty dc,(Builtin.copy_ #[27,27] ty #[.slice (some ⟨w.heap.size,i*3,none⟩) (n+1-i) dc,.slice (some ⟨vb,voff,none⟩) 1 vc]).run Tryz.prog W=.ok (goInt (1:Nat)) (W.setCells w.heap.size (i*3) vs):=fun W hWc hWf ty dc=>by
  have:=aDt (P:=Tryz.prog) W 27 27 ty 54 w.heap.size (i*3) (n+1-i) dc ⟨vb,voff,none⟩ 1 vc 3 vs Tryz.underlying27 hsz (by rw [hvl]; simp only [Nat.min_def]; split <;> omega)
   (fun j v hj=>by rw [Addr.add_lit,hWc]; exact hOv _ v (hvs j v hj))
   (fun j hj=>by rw [hWc]; exact hN _ (by omega)) (fun j hj=>by rw [hWf]; exact hNf _) h1v
  rw [show Nat.min 1 (n+1-i)=1 by simp only [Nat.min_def]; split <;> omega] at this
  exact this
 have hGn:n+1≤G:=by rw [hG]; exact grownCap_ge w _ _ _
 have hG63:G≤9223372036854775807:=by
  have:=grownCap_le_maxLen w (n+1) c 54 (by unfold maxLen; omega)
  rw [← hG] at this
  unfold maxLen at this
  omega
 have hGi:¬ (G=i):=by omega
 have hGim:¬ (G=i+1):=by omega
 have hci:¬ (c=i):=by omega
 have hbN:b≠w.heap.size:=by omega
 have hdl:(cs.drop (i*3)).length=(n-i)*3:=by rw [List.length_drop,hcl]; omega
 have hcpB:∀ (W:World),(∀ x,W.cell? x=(W1.setCells w.heap.size (i*3) vs).cell? x)→(∀ x,W.frozen? x=(W1.setCells w.heap.size (i*3) vs).frozen? x)→∀ ty dc sc,(Builtin.copy_ #[27,27] ty #[.slice (some ⟨w.heap.size,(i+1)*3,none⟩) (n-i) dc,.slice (some ⟨b,off+i*3,none⟩) (n-i) sc]).run Tryz.prog W=.ok (goInt (n-i:Nat)) (W.setCells w.heap.size ((i+1)*3) (cs.drop (i*3))):=fun W hWc hWf ty dc sc=>by
  have:=aDt (P:=Tryz.prog) W 27 27 ty 54 w.heap.size ((i+1)*3) (n-i) dc ⟨b,off+i*3,none⟩ (n-i) sc 3 (cs.drop (i*3)) Tryz.underlying27 hsz (by rw [hdl]; simp only [Nat.min_def]; split <;> omega)
   (fun j v hj=>by
    rw [Addr.add_lit,hWc,World.cell?_setCells_out _ _ _ _ _ (fun h _=>absurd h hbN),Nat.add_assoc]
    exact hOb _ v (hcs (i*3+j) v (by rwa [List.getElem?_drop] at hj)))
   (fun j hj=>by rw [hWc]; exact aGo _ _ _ _ (fun t ht=>hN _ (by omega)) _ (hN _ (by omega)))
   (fun j hj=>by rw [hWf,World.frozen?_setCells]; exact hNf _) (fun v hv=>h1c v (List.mem_of_mem_drop hv))
  rw [show Nat.min (n-i) (n-i)=n-i by simp] at this
  exact this
 subst hW1
 have hE1:∀ x,((w.alloc (.cells ROW 54)).drew).cell? x=(w.drew.alloc (.cells ROW 54)).cell? x:=fun x=>rfl
 have hE2:∀ x,((w.alloc (.cells ROW 54)).drew).frozen? x=(w.drew.alloc (.cells ROW 54)).frozen? x:=fun x=>rfl
 have hF1:∀ x,(((w.alloc (.cells ROW 54)).drew.setCells w.heap.size (i*3) vs).drew).cell? x=((w.drew.alloc (.cells ROW 54)).setCells w.heap.size (i*3) vs).cell? x:=fun x=>rfl
 have hF2:∀ x,(((w.alloc (.cells ROW 54)).drew.setCells w.heap.size (i*3) vs).drew).frozen? x=((w.drew.alloc (.cells ROW 54)).setCells w.heap.size (i*3) vs).frozen? x:=fun x=>rfl
 have hw1:IntKind.i64.wrap ((i:Int)+1)=(i:Int)+1:=by rw [IntKind.wrap_i64]; omega
 have hb1:(0:Int)≤(i:Int)+1:=by omega
 have hin:i≤n:=by omega
 have htn:((i:Int)+1).toNat=i+1:=by omega
 have hb3:(i:Int)≤(n:Int):=by omega
 clear hkk hik hold hROW hG hRl
 go_enter Tryz.func63,Tryz.ntmps63
 go_wp2_with (first
  | (at_builtin; refine Lib.wpList_append_run _ rfl _ _ _ _ rfl _ _ rfl rfl _ _ (hrz _) ?_)
  | (at_builtin; refine aEp _ rfl _ _ 27 27 rfl _ _ rfl rfl (hcpA _ hE1 hE2 _ _) ?_)
  | (at_builtin; refine aEp _ rfl _ _ 27 27 rfl _ _ rfl rfl (hcpB _ (fun _=>rfl) (fun _=>rfl) _ _ _) ?_))
 go_region_law_o (refine aHq rfl _ _ 27 27 rfl (.slice (some ⟨w.heap.size,(i+1)*3,none⟩) (n-i) (G-(i+1))) (.slice (some ⟨b,off+i*3,none⟩) (n-i) (c-i)) (by simp [Act.eval,Act.put]) (by simp [Act.eval,Act.put]) (hcpB _ hF1 hF2 3 (G-(i+1)) (c-i)) ?_)
 go_wp2
 go_ret
 exact ⟨rfl,rfl⟩
end Go.Proofs
namespace Go.Proofs.YtgdllpgidgiccaaGreatDoor
open Go.ChangeShapes Go.WideShapes Go.ChangeAt Go.RowKit Go.Ab
theorem own:ownKnob Tryz.prog.godebug=none:=by kernel_rfl
theorem laid:laidOutB Tryz.prog=true:=by kernel_rfl
def tset:List TypeId:=[22,9,3]
theorem closed:tset.all (okT Tryz.prog tset)=true:=by kernel_rfl
theorem u9:Tryz.prog.underlying 9=some .string:=Tryz.underlying9
theorem u22:Tryz.prog.underlying 22=some (.slice 3):=Tryz.underlying22
theorem c3:Tryz.prog.cellsOf 3=1:=by kernel_rfl
theorem u3:Tryz.prog.underlying 3=some (.int .i64):=Tryz.underlying3
theorem laid_calls {H:Type} {enc:TypeId×Value→H} {C:Checked} {os:Os} {f:FuncId} {fn:Func} {s:ChangeSpec} {conds:List PathCond} {apart fresh handsOn again:Bool} {X:World→Prop}
 (own:ownKnob C.prog.godebug=none) (started:os.Started) (noInit:C.prog.inits.idxOf? f=none) (hfn:C.prog.funcs[f]?=some fn)
 (witness:∃ (w:World) (tape:Tape) (i:Input),w.os=os∧(w.forCall tape i).Shaped C.prog∧i.vars=[]∧Input.okWide C.prog (w.forCall tape i) .any w.heap.size f i ∧
  ((s.pre enc C.prog fn conds apart (w.forCall tape i).memory i.args∧X (w.forCall tape i).memory)∧sizedMet enc C.prog fn (OpenSpec.ofChange s) apart (w.forCall tape i).memory i.args)∧Assume.holds {} C.prog (lone (Frame.enter C.prog f i.args .normal) [] (w.forCall tape i)))
 (contract:∀ (W:World) (base:Nat) (args:Array Value) (ds gs:List (DataW H)) (before:List MemPlace),
  (∀ (j:Nat) t v,fn.params[j]?=some t→args[j]?=some v→Value.okWide C.prog W .any base t v) →
  DataW.Whole enc C.prog fn.params.toList s.vars apart W args.toList ds gs before→W.ShapedOpen C.prog →
  Calls C.prog f args W fun e W'=>∃ v,e=.returned v∧s.post enc C.prog fn apart fresh handsOn again W args v W') :
 ReturnsInHanded {} C os f .any (fun w args=>(s.pre enc C.prog fn conds apart w args∧X w)∧sizedMet enc C.prog fn (OpenSpec.ofChange s) apart w args) (s.post enc C.prog fn apart fresh handsOn again):=by
 refine returnsInHanded_of_calls own started noInit witness ?_
 intro w tape i _ hsh _ hok hpre hholds
 obtain ⟨_,_,_,fn',hfn',_,_,_,_,hval⟩:=hok
 have e:fn'=fn:=Option.some.inj (hfn'.symm.trans hfn)
 subst e
 obtain ⟨⟨⟨ds,gs,before,hw,hc⟩,hx⟩,hz⟩:=hpre
 have hw':=DataW.Whole.of_heap (w':=w.forCall tape i) (by rfl) hw
 refine (contract (w.forCall tape i) w.heap.size i.args ds gs before hval hw' hsh).mono fun e W' ⟨v,he,hp⟩=>?_
 subst he
 exact ChangeSpec.post_blind hp
theorem gi0:gint Tryz.prog 0:=fun w h=>Tryz.laysM143.s1_3 w h
theorem idx:Idx Tryz.prog sF:=bI2 gi0 fun s sub m w hs hm=>Tryz.strings_Index s sub m w hs hm
theorem rep:Rpt Tryz.prog sF:=bJw fun s c w hc hl=>Tryz.strings_Repeat s c w hc hl
theorem strc:StrC Tryz.prog sF:=bIy (fun s c w h1 h2 h3=>Any.strings_Trim_laid Tryz.lays160 (by kernel_rfl) s c w h1 h2 h3) (fun s c w h1 h2 h3=>Any.strings_TrimRight_laid Tryz.lays162 (by kernel_rfl) s c w h1 h2 h3)
 (fun s c w h2 h3=>Any.strings_TrimLeft_laid Tryz.lays161 (by kernel_rfl) s c w h2 h3) (fun s p w h=>Tryz.strings_HasSuffix s p w h) (fun s c w=>Tryz.strings_IndexByte s c w)
theorem par:ParFns Tryz.prog sF sT:=⟨fn57,fn58,fn59,fn69,fn70,fn71,fn73,fn74,fn75,fn76,fn77,fn78,fn79,fn80,bOi,bNp,rep⟩
theorem tok:TokCode Tryz.prog sF sT:=⟨fn56,fn67,fn68,fn72,fn97,fn98,bPf,bNb,bOx,bM0,idx⟩
theorem bNs (s:List UInt8) (hs:s.length≤8192):PTr Tryz.prog (sF 36) [.str s] (.tup [ln 5 (vns (aB4 s)),.int .i64 0]):=bDv ⟨fn36,par,tok⟩ s hs
theorem sect:aNw Tryz.prog (sF 124):=fun s hs=>t124 bOz strc.toStrC0 bOe s hs (bD2 bOo (t2 fn2 fn23 fn22 fn29 fn27 fn33 fn30 fn31 fn32) s (bNs s hs) hs)
theorem rc:RC Tryz.prog sF sT:=⟨fn37,fn60,fn61,fn62,fn82,fn83,fn85,fn86,fn87,fn88,fn89,fn90,fn91,fn92,bN9,bOn,bPd,⟨fn65,bOb,bMz,bM4,fn25,fn50,fn81,fn84⟩⟩
theorem bK9:aNw Tryz.prog (sF 159):=fun s hs=>t159 bOq bNj bN1 bN5 s hs (r37 rc s hs) (bAi bOp (t3 fn3 fn24 fn25) s hs)
theorem jn:bKx Tryz.prog sF:=fun l h1 h2 h3=>t255 bMp strc.suf fn27 fn33 fn30 fn23 l h1 h2 h3
theorem mrg:MrgFns Tryz.prog sF sT:=⟨⟨bMq,bNn,bMv,bMb,bNv,bO0,by kernel_rfl,by kernel_rfl⟩,bNt,bN4,bL8,bN6,sect,bO6,jn⟩
theorem spl:SplL Tryz.prog sF sT:=bKb gi0 fun s sep m w hs hm h1=>Tryz.strings_Split s sep m w hs hm h1
theorem jnl:JnL Tryz.prog sF:=bJe fun bk o c xs sep w h1 h2 h3 h4 h5=>Tryz.strings_Join bk o c xs sep w h1 h2 h3 h4 h5
theorem thr:ThreeC Tryz.prog sF sT:=⟨⟨fn46,fn47⟩,fn39,bM9,bMt,bNf,spl,jnl⟩
theorem insr:InsC Tryz.prog sF sT:=bHc (Z:=(Value.agg #[.string ByteArray.empty,.int .i64 0,.string ByteArray.empty]).cells) rfl
 (fun b off n c vb voff vc vs w h1 h2 h3 h4 h5 h6 h7=>aQy b off n c vb voff vc vs w h1 h2 h3 h4 h5 h6 h7)
 (fun b off n c vb voff vc cs vs w h1 h2 h3 h4 h5 h6 h7 h8=>(aQv b off n c vb voff vc cs vs w h1 h2 h3 h4 h5 h6 h7 h8).mono fun e w' ⟨q1,q2⟩=>⟨_,grownCap_ge w _ _ _,Nat.lt_of_le_of_lt (grownCap_le_maxLen w (n+1) c 54 (by unfold maxLen; omega)) (by decide),q1,q2⟩)
 (fun b off n c i vb voff vc cs vs w h1 h2 h3 h4 h5 h6 h7 h8 h9 h10 h11 h12 tA tB kA kB k1 k2 k3 k4 k5=>aYg b off n c i vb voff vc cs vs w h1 h2 h3 h4 h5 h6 h7 h8 h9 h10 h11 h12 tA tB kA kB k1 k2 k3 k4 k5)
 (fun b off n c i vb voff vc cs vs w h1 h2 h3 h4 h5 h6 h7 h8 h9 h10=>(bCq b off n c i vb voff vc cs vs w h1 h2 h3 h4 h5 h6 h7 h8 h9 h10).mono fun e w' ⟨q1,q2⟩=>⟨_,grownCap_ge w _ _ _,Nat.lt_of_le_of_lt (grownCap_le_maxLen w (n+1) c 54 (by unfold maxLen; omega)) (by decide),q1,q2⟩)
theorem kn:PTr Tryz.prog (sF 254) [] (.bool true):=t254 bOk mrg
theorem mlaw:MrgLaw Tryz.prog sF sT:=⟨mrg,thr,insr,bK9,bLs,kn⟩
theorem rmrg:RMrg Tryz.prog sF sT:=⟨bM2,bLs,bOw,bPa,bMd,bN7,bOr,bMr,bK9⟩
end Go.Proofs.YtgdllpgidgiccaaGreatDoor
