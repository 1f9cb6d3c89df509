/- Several texts of one kind, merged. No condition. -/
import Derived.Test.YtdnhjbdnebokiaaGreatDoorAbP1
set_option linter.unusedSimpArgs false
set_option linter.unusedVariables false
namespace Go.Ab
variable {P:Program} {F T:Nat→Nat}
theorem Stk.lt {z:Bool} {L:Heap} {nx:Nat} {f:List Nat} {p:Nat} {els:List El} (h:Stk T z L nx f p els):∀ i,i∈f→i<nx:=by obtain ⟨sid,jk,hs,hp⟩:=h; exact hp.lt
theorem Stk.ne {z:Bool} {L:Heap} {nx:Nat} {f:List Nat} {p:Nat} {els:List El} (h:Stk T z L nx f p els):True:=trivial
end Go.Ab
namespace Go.Ab
variable {P:Program} {F T:Nat→Nat}
theorem Stk.split {z:Bool} {L:Heap} {nx:Nat} {f:List Nat} {p:Nat} {els:List El} (h:Stk T z L nx f p els) (hne:els≠[]):∃ sid jk h t,Stx T z L nx f p els sid jk (h::t)∧els=h.e::t.map EH.e:=by
 obtain ⟨sid,jk,hs,hp⟩:=h
 cases hs with
 | nil=>exact absurd hp.map.symm hne
 | cons h t=>exact ⟨sid,jk,h,t,hp,by rw [← hp.map]; rfl⟩
theorem Stx.fpnd {z:Bool} {L:Heap} {nx:Nat} {f:List Nat} {p:Nat} {els:List El} {sid:Nat} {jk:List V} {h:EH} {t:List EH} (hp:Stx T z L nx f p els sid jk (h::t)):h.fp.Nodup∧∀ i,i∈h.fp→i<nx:=by
 have hF:=hp.foot
 have hn:=hp.nodup
 rw [hF] at hn
 simp only [List.flatMap_cons,List.nodup_cons,List.nodup_append] at hn
 exact ⟨hn.2.2.1,fun i hi=>hp.lt i (by rw [hF]; simp [hi])⟩
theorem t74 (hf:Is74 P F T) (h69:Is69 P F T) (h59:Is59 P F T) (h106:aT8 P F T) {L:Heap} {nx:Nat} {f:List Nat} {p:Nat} {els:List El} (hs:Stk T false L nx f p els) (hb:pot els+2≤2^29) (hne:els≠[]) :
 ECall P (F 74) [.ptr p 0] L nx (Did T L nx f p (eqF els)):=by
 obtain ⟨sid,jk,h,t,hp,r9⟩:=hs.split hne
 have hlen:=aZ1 els
 have hel:els.length=t.length+1:=by rw [r9]; simp
 have hpe:h.e.pot≤pot els:=by rw [r9]; simp [pot]
 simp only [El.pot] at hpe
 refine aCo [] hf (by simp) ?_
 simp only [c74,push_cast,seval,-Nat.reducePow]
 refine aAc (t59 h59 (hp.grow (by omega)) (by omega)) ?_
 rintro _ _ n1 ⟨rfl,rfl,hn1⟩
 have hat:=hp.at_ h (by simp)
 have hlv:h.live:=hp.live h (by simp)
 have hok:h.e.ok:=hp.ok _ (by rw [r9]; simp)
 have hbx:=hat.box
 simp only [EH.cells] at hbx
 rename_i L1
 have els_eq:eqF els=addS (tx [61]) els→∀ m,n1≤m→ECall P (F 69) [.ptr p 0,.str [61]] L1 m fun _ L' nx'=>∃ f',nx≤nx'∧Stk T false L' nx' f' p (eqF els)∧Stp L1 nx f L' nx' f':=fun he m hm=>by
  refine (t69 h69 h59 h106 (Stk.grow ⟨_,_,_,hp⟩ (by omega) fun _ _=>rfl) [61] (by simp; omega) hne).mono ?_
  rintro _ L' nx' ⟨f2,k1,k2⟩
  have:=k2.le
  exact ⟨f2,by omega,by rw [he]; exact k1,(Stp.grow (by omega) fun _ _=>rfl).trans k2⟩
 rcases aC7 h.ai with hv | ⟨ia,hv⟩
 ·have h0:=hlv.ai hv
  have eav2:h.av=.nils:=by simp [EH.av,hv,lvO,h0,vas,ln]
  rw [eav2] at hbx
  have he:eqF els=addS (tx [61]) els:=by rw [r9,eqF,if_neg (by simp [h0,aFs])]
  simp only [push_cast,seval,-Nat.reducePow,hbx]
  refine aAk (fun hk=>?_) (fun hk=>?_)
  all_goals
   simp only [push_cast,seval,-Nat.reducePow]
   refine aAc (els_eq he _ (by omega)) ?_
   rintro _ L' nx' ⟨f2,k0,k1,k2⟩
   exact ⟨by omega,f2,k1.grow (by omega) fun _ _=>rfl,k2.trans (Stp.grow (by omega) fun _ _=>rfl)⟩
 ·obtain ⟨a2,a3⟩:=hat.ai ia hv
  obtain ⟨i,a,ha⟩:∃ i a,h.e.args=i++[a]:=by
   rcases List.eq_nil_or_concat h.e.args with h0 | ⟨i,a,h0⟩
   ·exact absurd h0 a3
   ·exact ⟨i,a,by rw [h0,List.concat_eq_append]⟩
  have eav2:h.av=.own ia 3 0 (i.length+1):=by simp [EH.av,hv,lvO,ha]
  rw [ha,aDi] at a2
  have hok':=hok.args a (by rw [ha]; simp)
  obtain ⟨an,nm,vl⟩:=a
  dsimp only [Arg.named,Arg.nm,Arg.val] at a2 hok'
  rw [eav2] at hbx
  have e1:((i.length:Nat):Int)+1-1=(i.length:Nat):=by omega
  have e2:∀ Z,(vas i++Z::[]).getD i.length .junk=Z:=fun Z=>aEr (by simp [aBt])
  have e3:∀ Z,i.length<(vas i++[Z]).length:=fun Z=>by simp [aBt]
  have e4:(0:Int)<((i.length:Nat):Int)+1:=by omega
  have hil:i.length+1≤2^29:=by
   have:h.e.args.length=i.length+1:=by rw [ha]; simp
   omega
  simp only [push_cast,seval,-Nat.reducePow,hbx]
  refine aAk (fun hk=>?_) (fun hk=>?_)
  ·have hk':h.e.kind=3:=by omega
   simp only [push_cast,seval,-Nat.reducePow,hbx,a2,e1,e2,e3,e4]
   refine ⟨by omega,by omega,?_⟩
   refine aJc (fun hnm=>?_) (fun hnm=>?_)
   ·subst hnm
    have he:eqF els=addS (tx [61]) els:=by rw [r9,eqF,if_neg (by rw [ha,aGd]; simp [Arg.named])]
    simp only [push_cast,seval,-Nat.reducePow]
    refine aAc (els_eq he _ (by omega)) ?_
    rintro _ L' nx' ⟨f2,k0,k1,k2⟩
    exact ⟨by omega,f2,k1.grow (by omega) fun _ _=>rfl,k2.trans (Stp.grow (by omega) fun _ _=>rfl)⟩
   ·subst hnm
    have he:eqF els={ h.e with args:=i++[.mk true vl []] }::t.map EH.e:=by
     rw [r9,eqF,if_pos ⟨hk',by rw [ha,aGd]; rfl⟩,ha,aCq]; rfl
    rw [he]
    simp only [push_cast,seval,-Nat.reducePow]
    have hp1:=hp.grow (nx':=n1+153) (by omega)
    refine Exists.elim (frzV (s:=⟨_,L1,n1+153⟩) hp1) fun s' hh=>Exists.elim hh fun F' fz=>⟨s',fz.fz,?_⟩
    have y0:=fz.env 0 rfl
    have y2:=fz.env 2 rfl
    have y3:=fz.env 3 rfl
    obtain ⟨jk',hp'⟩:=fz.st
    have hnx:=fz.nx
    have hst:=fz.stp
    simp only [push_cast,seval,-Nat.reducePow] at y0 y2 y3 hnx hp' hst
    have a1:=hp'.at_ _ (List.mem_cons_self)
    have b1:=a1.box
    simp only [EH.cells] at b1
    obtain ⟨fnd,flt⟩:=hp'.fpnd
    have tid:h.id<n1+153:=flt h.id (by simp [EH.fp])
    have elv:({ h with vi:=none }:EH).lv=h.lv:=rfl
    have eav:({ h with vi:=none }:EH).av=h.av:=rfl
    rw [elv,eav,eav2] at b1
    have c2:=(a1.ai ia hv).1
    have evv:({ h with vi:=none }:EH).vv=ln 5 (vns (aCh h.e.args)):=rfl
    rw [evv,aQa,ha,aHy] at c2
    have e5:vas [Arg.mk false nm vl]=[V.agg [.bool false,ln 5 (vns nm),ln 5 (vns vl)]]:=rfl
    rw [e5] at c2
    simp only [EH.fp,Option.toList_none,List.append_nil,List.nodup_cons,List.mem_append,not_or,List.nodup_append] at fnd
    have nai:h.id≠ia:=fun e=>fnd.1.2 (by simp [hv,e])
    have tai:ia<n1+153:=flt ia (by simp [EH.fp,hv])
    have e9:∀ Z y,(vas i++Z::[]).set i.length y=vas i++y::[]:=fun Z y=>aLz (by simp [aBt])
    simp only [push_cast,seval,-Nat.reducePow,y0,y2,y3,hnx,b1,c2,e1,e2,e3,e4,e9]
    refine ⟨by omega,by omega,by omega,by omega,by omega,?_⟩
    have hst2:Stp L1 nx f s'.L (n1+153) F':=(Stp.grow (by omega) fun _ _=>rfl).trans hst
    refine Did.step hst2 ?_
    refine hp'.top (z':=false) (h':=⟨{ h.e with args:=i++[.mk true vl []] },h.id,h.li,some ia,none⟩) (fun x gi gn=>?_) ⟨?_,?_,?_,fun x hx=>by simp at hx⟩ (fun _=>⟨hlv.li,fun e=>by simp at e,fun _=>by simp [aAz,Arg.val]⟩) rfl ?_ ?_ ?_ (by omega) ?_
    ·have:x≠ia:=fun e=>gn (by simp [EH.fp,hv,e])
     simp only [aF7,this,if_false]
    ·simp only [aF7,nai,if_false,b1]
     simp [EH.cells,EH.lv,EH.av,lvO]
    ·intro x hx
     have hx':h.li=some x:=hx
     have:x≠ia:=fnd.2.2.2 x (by simp [hx']) ia (by simp [hv])
     simp only [aF7,this,if_false]
     exact a1.li x hx
    ·intro x hx
     simp only [Option.some.injEq] at hx
     subst hx
     refine ⟨?_,by simp⟩
     simp only [aF7,if_true,aDi]
     simp [EH.vv,lvO,aAz,Arg.val,Arg.named,Arg.nm,vns,ln]
    ·simp only [EH.fp,Option.toList_none,Option.toList_some,List.append_nil,List.nodup_cons,List.mem_append,List.mem_singleton,not_or,List.nodup_append,List.nodup_nil,List.not_mem_nil,not_false_eq_true,and_true,true_and]
     refine ⟨⟨fnd.1.1,nai⟩,fnd.2.1,fun a ha b hb=>?_⟩
     subst hb
     exact fnd.2.2.2 a ha b (by simp [hv])
    ·intro x hx
     simp only [EH.fp,Option.toList_none,Option.toList_some,List.append_nil,List.mem_cons,List.mem_append,List.not_mem_nil,or_false] at hx ⊢
     rcases hx with hx | hx | hx
     ·exact .inl (.inl hx)
     ·exact .inl (.inr (.inl hx))
     ·exact .inl (.inr (.inr (by simp [hv,hx])))
    ·intro x hx
     simp only [EH.fp,Option.toList_none,Option.toList_some,List.append_nil,List.mem_cons,List.mem_append,List.not_mem_nil,or_false] at hx
     rcases hx with hx | hx | hx
     ·omega
     ·have:=flt x (by simp only [EH.fp,List.mem_cons,List.mem_append]; exact .inr (.inl (.inl hx))); omega
     ·omega
    ·refine ⟨hok.tag,hok.list,fun a hm=>?_⟩
     rcases List.mem_append.1 hm with hm | hm
     ·exact hok.args a (by rw [ha]; exact List.mem_append_left _ hm)
     ·simp only [List.mem_singleton] at hm
      subst hm
      exact ⟨hok'.2,fun n hn=>by simp [Arg.val] at hn⟩
  ·have he:eqF els=addS (tx [61]) els:=by rw [r9,eqF,if_neg (by omega)]
   simp only [push_cast,seval,-Nat.reducePow]
   refine aAc (els_eq he _ (by omega)) ?_
   rintro _ L' nx' ⟨f2,k0,k1,k2⟩
   exact ⟨by omega,f2,k1.grow (by omega) fun _ _=>rfl,k2.trans (Stp.grow (by omega) fun _ _=>rfl)⟩
end Go.Ab
namespace Go.Ab
variable {P:Program} {F T:Nat→Nat}
end Go.Ab
namespace Go.Ab
variable {P:Program} {F T:Nat→Nat}
def Tok.vs (t:Tok):List V:=[.int .i64 t.kind,.int .i64 t.fr,.int .i64 t.to]
structure Tok.wf (s:List UInt8) (t:Tok):Prop where
 kind:1≤t.kind∧t.kind≤12
 lt:t.fr<t.to
 le:t.to≤s.length
 wiki:t.kind=10→17≤(t.text s).length
 tag:t.kind=11→1≤t.tag s∧t.tag s≤3
 open_:t.kind=3→2≤(t.text s).length
 tagO:t.kind=11→∃ k,1≤k∧k≤3∧t.text s=Go.Ab.tagO k
 tagC:t.kind=12→∃ k,1≤k∧k≤3∧t.text s=Go.Ab.tagC k
theorem Tok.text_length {s:List UInt8} {t:Tok} (h:t.to≤s.length):(t.text s).length=t.to-t.fr:=by simp [Tok.text]; omega
end Go.Ab
