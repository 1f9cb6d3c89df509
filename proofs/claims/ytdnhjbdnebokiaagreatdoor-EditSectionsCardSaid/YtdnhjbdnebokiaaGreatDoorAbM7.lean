/- Texts of four sections. No condition. -/
import Derived.Test.YtdnhjbdnebokiaaGreatDoorAbM1
import Derived.Test.YtdnhjbdnebokiaaGreatDoorAbR8
import Derived.Test.YtdnhjbdnebokiaaGreatDoorAbZ2
import Derived.Test.YtdnhjbdnebokiaaGreatDoorAbZ4
set_option linter.unusedSimpArgs false
set_option linter.unusedVariables false
namespace Go.Ab
open Go.Lib
def hlB (t:List UInt8):List UInt8:=[61,61,32]++t++[32,61,61]
def tbB (x:List UInt8×List UInt8):List UInt8:=hlB x.1++[10]++(x.2++[10])
def catB (l:List (List UInt8×List UInt8)):List UInt8:=l.flatMap tbB
structure TOk (t:List UInt8):Prop where
 hd:aQk (hlB t)=some (2,t)
 no:∀ b,b∈hlB t→b≠10∧b≠125∧b≠93∧b≠60
theorem aFm (x:List UInt8×List UInt8) (r:List (List UInt8×List UInt8)):catB (x::r)=tbB x++catB r:=rfl
theorem aR8:∀ {l r:List UInt8},(∀ b,b∈l→b≠10)→aCm (l++10::r)=l.length
 | [],r,_=>by simp [aCm]
 | x::l,r,h=>by
   have ih:=aR8 (l:=l) (r:=r) fun b hb=>h b (by simp [hb])
   rw [List.cons_append,aCm,if_neg (h x (by simp)),ih,List.length_cons]
theorem aSb {s pre l rest:List UInt8} (hs:s=pre++(l++10::rest)) (hl:∀ b,b∈l→b≠10) (n:Nat) :
 rawF s (List.replicate s.length true) (n+1) pre.length=(match aQk l with | some (k,t)=>[⟨k,t,pre.length,pre.length+l.length+1,s.length⟩] | none=>[])++rawF s (List.replicate s.length true) n (pre++l++[10]).length:=by
 have hlen:s.length=pre.length+(l.length+(rest.length+1)):=by rw [hs]; simp
 have hd:s.drop pre.length=l++10::rest:=by rw [hs]; simp
 have hE:aB2 s pre.length=pre.length+l.length:=by unfold aB2; rw [hd,aR8 hl]
 have hm:min (aB2 s pre.length+1) s.length=pre.length+l.length+1:=by omega
 have ht:(s.take (aB2 s pre.length)).drop pre.length=l:=by
  rw [hE,hs,List.take_append,List.take_of_length_le (by omega),Nat.add_sub_cancel_left,List.drop_left]
  simp
 have hall:(((List.replicate s.length true).take (aB2 s pre.length)).drop pre.length).all id=true:=by
  rw [List.all_eq_true]
  intro b hb
  have:=List.mem_of_mem_take (List.mem_of_mem_drop hb)
  rw [(List.mem_replicate.1 this).2]
  rfl
 rw [rawF,if_pos (by omega)]
 have hn:min (aB2 s pre.length+1) s.length=(pre++l++[10]).length:=by rw [hm]; simp; omega
 rw [hn]
 congr 1
 unfold aEi
 rw [if_pos hall,ht,hm]
 rfl
def secB (off:Nat):List (List UInt8×List UInt8)→List Sec
 | []=>[]
 | x::r=>⟨2,x.1,off,off+(hlB x.1).length+1,off+(tbB x).length⟩::secB (off+(tbB x).length) r
def rawB (N off:Nat):List (List UInt8×List UInt8)→List Sec
 | []=>[]
 | x::r=>⟨2,x.1,off,off+(hlB x.1).length+1,N⟩::rawB N (off+(tbB x).length) r
theorem aS3 (N:Nat):∀ (l:List (List UInt8×List UInt8)) (off:Nat),N=off+(catB l).length→toF (rawB N off l)=secB off l
 | [],_,_=>rfl
 | x::r,off,h=>by
   rw [aFm,List.length_append] at h
   rw [rawB,secB,toF,aS3 N r _ (by omega)]
   congr 1
   unfold toOf
   cases r with
   | nil=>simp [rawB,catB] at h ⊢; omega
   | cons y r2=>simp [rawB]
theorem bBc (s:List UInt8) (off:Nat) (l:List (List UInt8×List UInt8)) (h:s.length=off+(catB l).length):nxF s (secB off l)=off:=by
 cases l with
 | nil=>simp [catB] at h; exact h
 | cons x r=>rfl
theorem aK1 {s:List UInt8}:∀ (l:List (List UInt8×List UInt8)) (pre:List UInt8) (p:List Sec),s=pre++catB l→(l.map Prod.fst).Pairwise (·≠·)→(∀ y,y∈p→y.title∉l.map Prod.fst)→uGo s p (secB pre.length l)=l.map fun x=>⟨x.1,0,tbB x⟩
 | [],_,_,_,_,_=>rfl
 | x::r,pre,p,hs,hd,hp=>by
   rw [List.map_cons,List.pairwise_cons] at hd
   rw [aFm] at hs
   have hs2:s=(pre++tbB x)++catB r:=by rw [hs,List.append_assoc]
   have hlen:s.length=pre.length+(tbB x).length+(catB r).length:=by rw [hs2]; simp only [List.length_append]
   have hc:cntT p x.1=0:=by
    unfold cntT
    rw [List.length_eq_zero_iff,List.filter_eq_nil_iff]
    intro y hy
    simp only [decide_eq_true_eq]
    intro e
    exact hp y hy (by rw [e]; simp)
   have ht:(s.take (pre.length+(tbB x).length)).drop pre.length=tbB x:=by
    rw [hs2,List.take_append,List.take_of_length_le (by simp)]
    simp
   have ih:=aK1 r (pre++tbB x) (p++[⟨2,x.1,pre.length,pre.length+(hlB x.1).length+1,pre.length+(tbB x).length⟩]) hs2 hd.2 (fun y hy=>by
    rcases List.mem_append.1 hy with hy | hy
    ·have:=hp y hy
     rw [List.map_cons,List.mem_cons,not_or] at this
     exact this.2
    ·rw [List.mem_singleton.1 hy]
     intro hm
     exact hd.1 _ hm rfl)
   rw [secB,uGo,bBc s _ r hlen,ht,List.map_cons]
   rw [List.length_append] at ih
   rw [ih]
   show (⟨x.1,cntT p x.1,tbB x⟩:Un)::_=_
   rw [hc]
theorem aQz {t a b:List UInt8} (h:tbB (t,a)=tbB (t,b)):a=b:=by
 unfold tbB at h
 exact List.append_cancel_right (List.append_cancel_left h)
def newB (o x y:List UInt8):List UInt8:=if x=o then y else x
theorem aT5 {o x y:List UInt8} (h:x=o∨y=o):aB4 (some o) (some x) (some y)=(some (newB o x y),false):=by
 unfold aB4 newB
 by_cases h1:x=y
 ·subst h1; by_cases h2:x=o <;> simp [h2]
 ·by_cases h2:x=o
  ·subst h2; simp [h1]
  ·rcases h with h | h
   ·exact absurd h h2
   ·subst h; simp [h1,h2]
theorem aGv {t o x y:List UInt8} (h:x=o∨y=o):aB4 (some (tbB (t,o))) (some (tbB (t,x))) (some (tbB (t,y)))=(some (tbB (t,newB o x y)),false):=by
 rw [aT5 (by rcases h with rfl | rfl <;> simp)]
 unfold newB
 by_cases e:x=o
 ·subst e; simp
 ·rw [if_neg e,if_neg fun hh=>e (aQz hh)]
end Go.Ab
