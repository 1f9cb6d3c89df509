/- Several texts of one kind, merged. No condition. -/
import Derived.Test.YtdnhjbdnebokiaaGreatDoorAbP3
import Derived.Lib.Index
import Derived.Lib.Repeat
set_option linter.unusedSimpArgs false
set_option linter.unusedVariables false
namespace Go.Ab
open Go.RowKit
variable {P:Program} {F:Nat→Nat}
theorem vs2 {vs:Array Value} {D:Nat→Prop} {w:World} {a b:V} (hl:[a,b].length=vs.size)
 (h:∀ i x,[a,b][i]?=some x→Rep (fun _=>none) D w x (vs.getD i undef)):∃ u v,vs=#[u,v]∧Rep (fun _=>none) D w a u∧Rep (fun _=>none) D w b v:=by
 refine ⟨vs.getD 0 undef,vs.getD 1 undef,?_,h 0 a rfl,h 1 b rfl⟩
 apply Array.ext
 ·simpa using hl.symm
 ·intro i h1 h2
  match i with
  | 0=>simp [Array.getD,show 0<vs.size by simpa using h1]
  | 1=>simp [Array.getD,show 1<vs.size by simpa using h1]
  | k+2=>exact absurd h2 (by simp)
end Go.Ab
namespace Go.Ab
theorem aX3 (l:List Node) (s:List UInt8):(aB7 l s).length≤l.length+1:=by
 unfold aB7
 split
 ·split
  ·simp
  ·simp
 ·simp
theorem aW2 (n:Node) (out:List Node):(n.jstep out).length≤out.length+1:=by
 obtain ⟨k,t,s,ks,as⟩:=n
 simp only [Node.jstep]
 split
 ·split
  ·omega
  ·exact aX3 _ _
 ·simp
theorem aX9 (l:List Node):∀ out,(aDl out l).length≤out.length+l.length:=by
 induction l with
 | nil=>intro out; simp [aDl]
 | cons n r ih =>
   intro out
   have:=ih (n.jstep out)
   have:=aW2 n out
   simp only [aDl,List.length_cons]; omega
def Jn (l:List Node):Prop:=aDl [] l=l
def Node.J (n:Node):Prop:=n.kind=1∨n.jn=n
theorem Jn.nil:Jn []:=by simp [Jn,aDl]
theorem aT3 {d:List Node} {n:Node} {s:List UInt8} (h:aB7 d s=d++[n]):aB7 d s=d++[.mk 1 0 s [] []]:=by
 unfold aB7 at h ⊢
 split at h
 ·split at h
  ·rename_i h1 h2
   exfalso
   have hne:d≠[]:=by rintro rfl; simp at h1
   have:=congrArg List.length h
   have:=List.length_pos_iff.2 hne
   simp at *
   omega
  ·rename_i h1 h2
   simp [h1,h2]
 ·rename_i h1
  simp [h1]
theorem Jn.snoc {d:List Node} {n:Node} (h:Jn (d++[n])):Jn d∧n.J∧(n.kind=1→n.text≠[]∧aB7 d n.text=d++[n]):=by
 unfold Jn at h
 rw [aC5] at h
 simp only [aDl] at h
 have hl:=aX9 d []
 simp only [List.length_nil,Nat.zero_add] at hl
 obtain ⟨k,t,s,ks,as⟩:=n
 simp only [Node.jstep] at h
 by_cases hk:k=1
 ·subst hk
  simp only [if_true] at h
  split at h
  ·rw [h] at hl; simp at hl; omega
  ·rename_i hs
   have key:aB7 (aDl [] d) s=aDl [] d++[.mk 1 0 s [] []]:=by
    unfold aB7 at h ⊢
    split at h
    ·split at h
     ·rename_i h1 h2
      exfalso
      have hne:aDl [] d≠[]:=by intro e; rw [e] at h1; simp at h1
      have h5:=congrArg List.length h
      have h6:=List.length_pos_iff.2 hne
      simp only [List.length_append,List.length_dropLast,List.length_singleton] at h5
      omega
     ·rename_i h1 h2
      simp [h1,h2]
    ·rename_i h1
     simp [h1]
   rw [key] at h
   have h2:=List.append_inj' h rfl
   refine ⟨h2.1,.inl rfl,fun _=>⟨hs,?_⟩⟩
   rw [h2.1] at key
   simp only [Node.text]
   rw [key,h2.2]
 ·simp only [if_neg hk] at h
  have h2:=List.append_inj' h rfl
  refine ⟨h2.1,.inr ?_,fun e=>absurd e hk⟩
  simpa [Node.jn] using h2.2
theorem Jn.mems:∀ (m:Nat) {l:List Node},l.length=m→Jn l→∀ n,n∈l→n.J
 | 0,l,hl,_,n,hn=>by rw [List.length_eq_zero_iff.1 hl] at hn; simp at hn
 | m+1,l,hl,h,n,hn=>by
   rcases List.eq_nil_or_concat l with rfl | ⟨i,a,rfl⟩
   ·simp at hn
   ·rw [List.concat_eq_append] at h hn hl
    obtain ⟨h1,h2,_⟩:=h.snoc
    rcases List.mem_append.1 hn with hn | hn
    ·exact Jn.mems m (by simpa using hl) h1 n hn
    ·simp at hn; subst hn; exact h2
theorem Jn.mem {l:List Node} (h:Jn l):∀ n,n∈l→n.J:=Jn.mems l.length rfl h
theorem aR4 (d:List Node) (q s:List UInt8):aB7 (d++[tx q]) s=d++[tx (q++s)]:=by
 simp [aB7,tx]
theorem aMt (out:List Node) {q:List UInt8} (h:q≠[]):(tx q).jstep out=aB7 out q:=by simp [tx,Node.jstep,h]
theorem Jn.push {l:List Node} (h:Jn l) {s:List UInt8} (hs:s≠[]):Jn (aB7 l s):=by
 rcases List.eq_nil_or_concat l with rfl | ⟨i,a,rfl⟩
 ·have:aB7 [] s=[tx s]:=rfl
  rw [this,Jn]
  simp [aDl,aMt _ hs,this]
 ·rw [List.concat_eq_append] at h ⊢
  obtain ⟨h1,h2,h3⟩:=h.snoc
  obtain ⟨k,t,q,ks,as⟩:=a
  by_cases hk:k=1
  ·subst hk
   obtain ⟨h4,h5⟩:=h3 rfl
   have ha:=aT3 h5
   rw [h5] at ha
   have ha:=(List.append_inj' ha rfl).2
   simp only [Node.text,List.cons.injEq,and_true] at ha h4 h5
   rw [ha]
   show Jn (aB7 (i++[tx q]) s)
   rw [aR4,Jn,aC5,h1]
   have e1:aB7 i q=i++[tx q]:=by rw [h5,ha]; rfl
   have hq:q++s≠[]:=by simp [h4]
   simp only [aDl]
   rw [aMt _ hq]
   unfold aB7 at e1 ⊢
   split at e1
   ·split at e1
    ·rename_i h7 h8
     exfalso
     have hne:i≠[]:=by rintro rfl; simp at h7
     have h5:=congrArg List.length e1
     have h6:=List.length_pos_iff.2 hne
     simp only [List.length_append,List.length_dropLast,List.length_singleton] at h5
     omega
    ·rename_i h7 h8
     simp [h7,h8,tx]
   ·rename_i h7
    simp [h7,tx]
  ·have e1:aB7 (i++[.mk k t q ks as]) s=(i++[.mk k t q ks as])++[tx s]:=by simp [aB7,hk,tx]
   rw [e1,Jn,aC5,h]
   simp only [aDl]
   rw [aMt _ hs,e1]
theorem Jn.addN {l:List Node} {n:Node} (h:Jn l) (hn:n.J):Jn (addN n l):=by
 unfold Go.Ab.addN
 split
 ·split
  ·exact h
  ·exact h.push (by assumption)
 ·rename_i hk
  have hj:=hn.resolve_left hk
  obtain ⟨k,t,s,ks,as⟩:=n
  simp only [Node.kind] at hk
  simp only [Node.jn] at hj
  rw [Jn,aC5,h]
  simp [aDl,Node.jstep,hk,hj]
structure El.jk (e:El):Prop where
 args:e.kind≠3→e.args=[]
 list:Jn e.list
 argJ:∀ a,a∈e.args→Jn a.nm∧Jn a.val
def El.src (e:El):List UInt8:=e.head++(srcs e.list++srcA e.args)
def kt (st:List El):List (Nat×Nat×Nat):=st.map fun e=>(e.kind,e.tag,e.count)
theorem bK5 (q:List UInt8):(tx q).src=q:=by simp [tx,Node.src]
end Go.Ab
namespace Go.Ab
end Go.Ab
