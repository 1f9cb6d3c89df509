/- Several texts of one kind, merged. No condition. -/
import Derived.Test.YtcmnepgnkcoiiaaGreatDoorAbP1
set_option linter.unusedSimpArgs false
set_option linter.unusedVariables false
namespace Go.Ab
variable {P:Program} {F T:Nat→Nat}
theorem Stk.lt {z:Bool} {L:Heap} {nx:Nat} {f:List Nat} {p:Nat} {els:List El} (h:Stk T z L nx f p els):∀ i,i∈f→i<nx:=by obtain ⟨sid,jk,hs,hp⟩:=h; exact hp.lt
theorem Stk.ne {z:Bool} {L:Heap} {nx:Nat} {f:List Nat} {p:Nat} {els:List El} (h:Stk T z L nx f p els):True:=trivial
end Go.Ab
namespace Go.Ab
variable {P:Program} {F T:Nat→Nat}
theorem Stk.split {z:Bool} {L:Heap} {nx:Nat} {f:List Nat} {p:Nat} {els:List El} (h:Stk T z L nx f p els) (hne:els≠[]):∃ sid jk h t,Stx T z L nx f p els sid jk (h::t)∧els=h.e::t.map EH.e:=by
 obtain ⟨sid,jk,hs,hp⟩:=h
 cases hs with
 | nil=>exact absurd hp.map.symm hne
 | cons h t=>exact ⟨sid,jk,h,t,hp,by rw [← hp.map]; rfl⟩
def lastB:List El→Nat
 | []=>0
 | [_]=>0
 | e::b::r=>if e.kind=2 then 0 else if e.kind=3 then r.length+1 else lastB (b::r)
def lastT (k:Nat):List El→Nat
 | []=>0
 | [_]=>0
 | e::b::r=>if e.kind=2∧e.tag=k then r.length+1 else lastT k (b::r)
theorem lastB_idx:∀ els:List El,(braceIdx els=none∧lastB els=0)∨∃ k,braceIdx els=some k∧lastB els+k+1=els.length∧0<lastB els
 | []=>.inl ⟨rfl,rfl⟩
 | [_]=>.inl ⟨rfl,rfl⟩
 | e::b::r=>by
   by_cases h2:e.kind=2
   ·exact .inl ⟨by simp [braceIdx,h2],by simp [lastB,h2]⟩
   ·by_cases h3:e.kind=3
    ·exact .inr ⟨0,by simp [braceIdx,h3],by simp [lastB,h3],by simp [lastB,h3]⟩
    ·rcases lastB_idx (b::r) with ⟨g1,g2⟩ | ⟨k,g1,g2,g3⟩
     ·exact .inl ⟨by simp [braceIdx,h2,h3,g1],by simp [lastB,h2,h3,g2]⟩
     ·refine .inr ⟨k+1,by simp [braceIdx,h2,h3,g1],?_,?_⟩
      ·simp only [lastB,h2,h3,if_false,List.length_cons] at g2 ⊢; omega
      ·simp only [lastB,h2,h3,if_false]; exact g3
theorem lastT_idx (t:Nat):∀ els:List El,(tagIdx t els=none∧lastT t els=0)∨∃ k,tagIdx t els=some k∧lastT t els+k+1=els.length∧0<lastT t els
 | []=>.inl ⟨rfl,rfl⟩
 | [_]=>.inl ⟨rfl,rfl⟩
 | e::b::r=>by
   by_cases h2:e.kind=2∧e.tag=t
   ·exact .inr ⟨0,by simp [tagIdx,h2],by simp [lastT,h2],by simp [lastT,h2]⟩
   ·rcases lastT_idx t (b::r) with ⟨g1,g2⟩ | ⟨k,g1,g2,g3⟩
    ·exact .inl ⟨by simp only [tagIdx,if_neg h2,g1]; rfl,by simp only [lastT,if_neg h2,g2]⟩
    ·refine .inr ⟨k+1,by simp only [tagIdx,if_neg h2,g1]; rfl,?_,?_⟩
     ·simp only [lastT,if_neg h2,List.length_cons] at g2 ⊢; omega
     ·simp only [lastT,if_neg h2]; exact g3
end Go.Ab
namespace Go.Ab
variable {P:Program} {F T:Nat→Nat}
theorem addS_length {n:Node} {els:List El}:(addS n els).length=els.length:=by cases els <;> rfl
theorem addsS_length {l:List Node}:∀ {els:List El},(addsS l els).length=els.length:=by
 induction l with
 | nil=>intro els; rfl
 | cons n r ih=>intro els; rw [addsS_cons,ih,addS_length]
theorem flat1_length {els:List El}:(flat1 els).length=els.length-1:=by cases els with | nil=>rfl | cons e r=>simp [flat1,addsS_length]
theorem flatN_length:∀ (k:Nat) {els:List El},(flatN k els).length=els.length-k
 | 0,els=>by simp [flatN]
 | k+1,els=>by rw [flatN,flatN_length k,flat1_length]; omega
def kc (els:List El):List (Nat×Nat):=els.map fun e=>(e.kind,e.count)
def Cn (els:List El):Prop:=∀ q,q∈kc els→q.1=3→2≤q.2
theorem kc_add {n:Node} {els:List El}:kc (addS n els)=kc els:=by
 cases els with
 | nil=>rfl
 | cons e r=>simp only [addS,El.add_cur,kc,List.map_cons,El.setCur]; split <;> rfl
theorem kc_adds {l:List Node}:∀ {els:List El},kc (addsS l els)=kc els:=by
 induction l with
 | nil=>intro els; rfl
 | cons n r ih=>intro els; rw [addsS_cons,ih,kc_add]
theorem kc_flat1 {els:List El}:kc (flat1 els)=(kc els).drop 1:=by
 cases els with
 | nil=>rfl
 | cons e r=>have:=kc_adds (l:=e.pieces) (els:=r); simpa [flat1,kc] using this
theorem kc_flatN:∀ (k:Nat) {els:List El},kc (flatN k els)=(kc els).drop k
 | 0,els=>by simp [flatN]
 | k+1,els=>by rw [flatN,kc_flatN k,kc_flat1,List.drop_drop,Nat.add_comm]
theorem Cn.drop {els els':List El} {k:Nat} (h:Cn els) (he:kc els'=(kc els).drop k):Cn els':=fun q hq=>h q (List.mem_of_mem_drop (he ▸ hq))
end Go.Ab
namespace Go.Ab
variable {P:Program} {F T:Nat→Nat}
def Tok.vs (t:Tok):List V:=[.int .i64 t.kind,.int .i64 t.fr,.int .i64 t.to]
structure Tok.wf (s:List UInt8) (t:Tok):Prop where
 kind:1≤t.kind∧t.kind≤12
 lt:t.fr<t.to
 le:t.to≤s.length
 wiki:t.kind=10→17≤(t.text s).length
 tag:t.kind=11→1≤t.tag s∧t.tag s≤3
 open_:t.kind=3→2≤(t.text s).length
 tagO:t.kind=11→∃ k,1≤k∧k≤3∧t.text s=Go.Ab.tagO k
 tagC:t.kind=12→∃ k,1≤k∧k≤3∧t.text s=Go.Ab.tagC k
theorem Tok.text_length {s:List UInt8} {t:Tok} (h:t.to≤s.length):(t.text s).length=t.to-t.fr:=by simp [Tok.text]; omega
structure SInv (els:List El):Prop where
 cn:Cn els
 root:∃ a,kc els=a++[(0,0)]
theorem SInv.ne {els:List El} (h:SInv els):els≠[]:=by
 obtain ⟨a,ha⟩:=h.root
 intro e; subst e; simp [kc] at ha
theorem SInv.kind1 {e:El} {els:List El} (h:SInv (e::els)) (hk:e.kind=1):els≠[]:=by
 obtain ⟨a,ha⟩:=h.root
 intro e2; subst e2
 cases a with
 | nil=>simp [kc] at ha; omega
 | cons x y=>simp [kc] at ha
end Go.Ab
