/- Several texts of one kind, merged. No condition. -/
import Derived.Shelf.Strings.IndexAnyAll
import Derived.Shelf.Small.Utf8
import Derived.Laws.RangeAny
import Derived.Laws.Runes
import Derived.WalkMore
import Derived.Shelf.RegionOpenPlain
import Derived.WalkKit
import Derived.Deep.Draws
import Derived.RegionTactic
import Derived.Deep.QuietTactic
import Derived.Test.YtjakkhalapaofaaGreatDoorAbP4
import Derived.Test.YtjakkhalapaofaaGreatDoorAbR3
set_option linter.unusedSimpArgs false
set_option linter.unusedVariables false
namespace Go.Ab
open Go.Proofs Go.Shelf Go.RowKit Go.Lib
variable {P:Program} {ρ:Ren}
end Go.Ab
namespace Go.Ab
def Tn (l:List Node):Prop:=∀ n,n∈l→∃ q,n=tx q
theorem Tn.nil:Tn []:=fun n h=>by simp at h
theorem Tn.app {a b:List Node} (ha:Tn a) (hb:Tn b):Tn (a++b):=fun n h=>by
 rw [List.mem_append] at h
 exact h.elim (ha n) (hb n)
theorem Tn.one (q:List UInt8):Tn [tx q]:=fun n h=>⟨q,by simpa using h⟩
theorem Tn.push {l:List Node} (h:Tn l) (s:List UInt8):Tn (aCj l s):=by
 rcases List.eq_nil_or_concat l with rfl | ⟨d,n,rfl⟩
 ·exact Tn.one s
 ·rw [List.concat_eq_append] at h ⊢
  obtain ⟨q,rfl⟩:=h n (by simp)
  rw [aTf]
  exact Tn.app (fun m hm=>h m (by simp [hm])) (Tn.one _)
theorem Tn.add {l:List Node} (h:Tn l) (q:List UInt8):Tn (addN (tx q) l):=by
 have e:addN (tx q) l=if (tx q).text=[] then l else aCj l (tx q).text:=if_pos rfl
 rw [e]
 by_cases hq:(tx q).text=[]
 ·rw [if_pos hq]; exact h
 ·rw [if_neg hq]; exact h.push q
def El.tn (e:El):Prop:=Tn e.list∧∀ a,a∈e.args→Tn a.nm∧Tn a.val
theorem aIi {p:Arg→Prop} {f:Arg→Arg} (hf:∀ a,p a→p (f a)):∀ {l:List Arg},(∀ a,a∈l→p a)→∀ a,a∈aEl f l→p a
 | [],h=>h
 | [x],h=>fun a ha=>by
   simp only [aEl,List.mem_singleton] at ha
   subst ha
   exact hf x (h x (by simp))
 | x::y::r,h=>fun a ha=>by
   simp only [aEl,List.mem_cons] at ha
   rcases ha with rfl | ha
   ·exact h a (by simp)
   ·exact aIi (l:=y::r) hf (fun b hb=>h b (List.mem_cons_of_mem _ hb)) a ha
theorem El.tn_add {e:El} (h:e.tn) (q:List UInt8):(e.add (tx q)).tn:=by
 simp only [El.add]
 split
 ·refine ⟨h.1,aIi (p:=fun a=>Tn a.nm∧Tn a.val) (fun a ha=>?_) h.2⟩
  obtain ⟨b,n,v⟩:=a
  exact ⟨ha.1,ha.2.add q⟩
 ·exact ⟨h.1.add q,h.2⟩
def Tq (st:List El):Prop:=∀ e,e∈st→e.tn
theorem Tq.tail {e:El} {r:List El} (h:Tq (e::r)):Tq r:=fun x hx=>h x (by simp [hx])
theorem Tq.cons {e:El} {r:List El} (he:e.tn) (h:Tq r):Tq (e::r):=fun x hx=>by
 rcases List.mem_cons.1 hx with rfl | hx
 ·exact he
 ·exact h x hx
theorem Tq.add {st:List El} (h:Tq st) (q:List UInt8):Tq (addS (tx q) st):=by
 cases st with
 | nil=>exact h
 | cons e r=>exact Tq.cons (El.tn_add (h e (by simp)) q) h.tail
theorem Tq.adds:∀ {l:List Node} {st:List El},Tq st→Tn l→Tq (aC5 l st)
 | [],st,h,_=>h
 | n::l,st,h,hl=>by
   obtain ⟨q,rfl⟩:=hl n (by simp)
   show Tq (aC5 l (addS (tx q) st))
   exact Tq.adds (h.add q) (fun m hm=>hl m (by simp [hm]))
theorem El.tn_pieces {e:El} (h:e.tn):Tn e.pieces:=by
 simp only [El.pieces]
 refine Tn.app (a:=[_]) (Tn.one _) (Tn.app h.1 fun n hn=>?_)
 obtain ⟨a,ha,hn⟩:=List.mem_flatMap.1 hn
 obtain ⟨b,nm,v⟩:=a
 have:=h.2 _ ha
 refine Tn.app (a:=[_]) (Tn.one [124]) (Tn.app ?_ this.2) n hn
 split
 ·exact Tn.app this.1 (Tn.one _)
 ·exact Tn.nil
theorem Tq.flat1 {st:List El} (h:Tq st):Tq (flat1 st):=by
 cases st with
 | nil=>exact h
 | cons e r=>exact Tq.adds h.tail (El.tn_pieces (h e (by simp)))
theorem Tq.flatN:∀ (n:Nat) {st:List El},Tq st→Tq (flatN n st)
 | 0,_,h=>h
 | n+1,_,h=>Tq.flatN n h.flat1
theorem Tq.open_ {st:List El} (h:Tq st) {e:El} (s:List UInt8) (h1:e.list=[]) (h2:e.args=[]):Tq (aG2 e s st):=by
 simp only [aG2]
 split
 ·exact h.add s
 ·exact Tq.cons ⟨by rw [h1]; exact Tn.nil,by rw [h2]; intro a ha; simp at ha⟩ h
theorem Tq.bar {st:List El} (h:Tq st):Tq (barF st):=by
 cases st with
 | nil=>exact h
 | cons e r =>
   simp only [barF]
   split
   ·refine Tq.cons ⟨(h e (by simp)).1,fun a ha=>?_⟩ h.tail
    simp only [List.mem_append,List.mem_singleton] at ha
    rcases ha with ha | rfl
    ·exact (h e (by simp)).2 a ha
    ·exact ⟨Tn.nil,Tn.nil⟩
   ·exact h.add _
theorem Tq.eq {st:List El} (h:Tq st):Tq (eqF st):=by
 cases st with
 | nil=>exact h
 | cons e r =>
   simp only [eqF]
   split
   ·refine Tq.cons ⟨(h e (by simp)).1,aIi (p:=fun a=>Tn a.nm∧Tn a.val) (fun a ha=>?_) (h e (by simp)).2⟩ h.tail
    exact ⟨ha.2,Tn.nil⟩
   ·exact h.add _
def Tok.open_ (t:Tok):Prop:=t.kind≠4∧t.kind≠6∧t.kind≠9∧t.kind≠10∧t.kind≠12
theorem Tq.take {s:List UInt8} {t:Tok} {st:List El} (ht:t.open_) (h:Tq st):Tq (aBr s t st):=by
 obtain ⟨h4,h6,h9,h10,h12⟩:=ht
 simp only [aBr,h4,h6,h9,h10,h12,if_false]
 split
 ·exact h.open_ _ rfl rfl
 ·split
  ·exact h.open_ _ rfl rfl
  ·split
   ·exact h.open_ _ rfl rfl
   ·split
    ·exact h.bar
    ·split
     ·exact h.eq
     ·exact h.add _
theorem Tq.run {s:List UInt8}:∀ {l:List Tok} {st:List El},(∀ t,t∈l→t.open_)→Tq st→Tq (runF s l st)
 | [],_,_,h=>h
 | t::l,st,hl,h=>Tq.run (l:=l) (st:=aBr s t st) (fun x hx=>hl x (by simp [hx])) (Tq.take (hl t (by simp)) h)
end Go.Ab
namespace Go.Ab
variable {P:Program} {F T:Nat→Nat}
end Go.Ab
