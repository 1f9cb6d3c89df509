/- Several texts of one kind, merged. No condition. -/
import Derived.Test.YtjakkhalapaofaaGreatDoorAbP3
import Derived.Lib.Index
import Derived.Lib.Repeat
set_option linter.unusedSimpArgs false
set_option linter.unusedVariables false
namespace Go.Ab
open Go.RowKit
variable {P:Program} {F:Nat→Nat}
theorem aO5 (t:List UInt8):∀ (s:List UInt8) (i:Nat),(match idxF t s i with | some k=>(k:Int)-i | none=>-1)=Go.Lib.index s t
 | [],i=>by
   cases t with
   | nil=>simp [idxF,Go.Lib.index]
   | cons a b=>simp [idxF,Go.Lib.index]
 | x::r,i=>by
   have ih:=aO5 t r (i+1)
   simp only [idxF,Go.Lib.index]
   by_cases h:t.isPrefixOf (x::r)=true
   ·simp [h]
   ·have h':t.isPrefixOf (x::r)=false:=by cases hh:t.isPrefixOf (x::r) with | true=>exact absurd hh h | false=>rfl
    simp only [h',Bool.false_eq_true,if_false]
    rw [← ih]
    cases hk:idxF t r (i+1) with
    | none=>simp
    | some k =>
      have:=aG4 t r (i+1) k hk
      have h2:¬ ((k:Int)-((i+1:Nat):Int)==-1)=true:=by simp only [beq_iff_eq]; omega
      simp only [h2,if_false]
      have e1:((i+1:Nat):Int)=(i:Int)+1:=by omega
      rw [e1]
      generalize (k:Int)=a
      simp
      omega
theorem bDp (s t:List UInt8):Go.Lib.index s t=idxZ t s:=by
 have:=aO5 t s 0
 rw [← this,idxZ]
 cases idxF t s 0 with
 | none=>rfl
 | some k=>simp
theorem aXk (c:UInt8):∀ n,Go.Lib.repeatL [c] n=List.replicate n c
 | 0=>rfl
 | n+1=>by simp [Go.Lib.repeatL,aXk c n,List.replicate_succ]
theorem vs2 {vs:Array Value} {D:Nat→Prop} {w:World} {a b:V} (hl:[a,b].length=vs.size)
 (h:∀ i x,[a,b][i]?=some x→Rep (fun _=>none) D w x (vs.getD i undef)):∃ u v,vs=#[u,v]∧Rep (fun _=>none) D w a u∧Rep (fun _=>none) D w b v:=by
 refine ⟨vs.getD 0 undef,vs.getD 1 undef,?_,h 0 a rfl,h 1 b rfl⟩
 apply Array.ext
 ·simpa using hl.symm
 ·intro i h1 h2
  match i with
  | 0=>simp [Array.getD,show 0<vs.size by simpa using h1]
  | 1=>simp [Array.getD,show 1<vs.size by simpa using h1]
  | k+2=>exact absurd h2 (by simp)
theorem bKd (h:∀ (s:ByteArray) (c:Nat) (w:World),c≤9223372036854775807→s.size*c≤140737488355328 →
 Calls P (F 42) #[.string s,.int .i64 c] w fun e w'=>e=.returned (.string ⟨(Go.Lib.repeatL s.data.toList c).toArray⟩)∧Below w.heap.size w w'):Rpt P F:=by
 intro c n hn D w vs hD hg hl hr
 obtain ⟨u,v,rfl,hu,hv⟩:=vs2 hl hr
 cases hu; cases hv
 refine (h ⟨[c].toArray⟩ n w (by omega) (by simp [ByteArray.size]; omega)).mono ?_
 rintro e w' ⟨rfl,hb⟩
 refine ⟨_,rfl,hb,?_⟩
 show Rep _ _ _ _ (.string ⟨(Go.Lib.repeatL [c] n).toArray⟩)
 rw [aXk]
 exact .str _ (by simp; omega)
end Go.Ab
namespace Go.Ab
theorem bAk (l:List Node) (s:List UInt8):(aCj l s).length≤l.length+1:=by
 unfold aCj
 split
 ·split
  ·simp
  ·simp
 ·simp
theorem aW4 (n:Node) (out:List Node):(n.jstep out).length≤out.length+1:=by
 obtain ⟨k,t,s,ks,as⟩:=n
 simp only [Node.jstep]
 split
 ·split
  ·omega
  ·exact bAk _ _
 ·simp
theorem aZ5 (l:List Node):∀ out,(aDy out l).length≤out.length+l.length:=by
 induction l with
 | nil=>intro out; simp [aDy]
 | cons n r ih =>
   intro out
   have:=ih (n.jstep out)
   have:=aW4 n out
   simp only [aDy,List.length_cons]; omega
def Jn (l:List Node):Prop:=aDy [] l=l
def Node.J (n:Node):Prop:=n.kind=1∨n.jn=n
theorem Jn.nil:Jn []:=by simp [Jn,aDy]
theorem aUx {d:List Node} {n:Node} {s:List UInt8} (h:aCj d s=d++[n]):aCj d s=d++[.mk 1 0 s [] []]:=by
 unfold aCj at h ⊢
 split at h
 ·split at h
  ·rename_i h1 h2
   exfalso
   have hne:d≠[]:=by rintro rfl; simp at h1
   have:=congrArg List.length h
   have:=List.length_pos_iff.2 hne
   simp at *
   omega
  ·rename_i h1 h2
   simp [h1,h2]
 ·rename_i h1
  simp [h1]
theorem Jn.snoc {d:List Node} {n:Node} (h:Jn (d++[n])):Jn d∧n.J∧(n.kind=1→n.text≠[]∧aCj d n.text=d++[n]):=by
 unfold Jn at h
 rw [aDp] at h
 simp only [aDy] at h
 have hl:=aZ5 d []
 simp only [List.length_nil,Nat.zero_add] at hl
 obtain ⟨k,t,s,ks,as⟩:=n
 simp only [Node.jstep] at h
 by_cases hk:k=1
 ·subst hk
  simp only [if_true] at h
  split at h
  ·rw [h] at hl; simp at hl; omega
  ·rename_i hs
   have key:aCj (aDy [] d) s=aDy [] d++[.mk 1 0 s [] []]:=by
    unfold aCj at h ⊢
    split at h
    ·split at h
     ·rename_i h1 h2
      exfalso
      have hne:aDy [] d≠[]:=by intro e; rw [e] at h1; simp at h1
      have h5:=congrArg List.length h
      have h6:=List.length_pos_iff.2 hne
      simp only [List.length_append,List.length_dropLast,List.length_singleton] at h5
      omega
     ·rename_i h1 h2
      simp [h1,h2]
    ·rename_i h1
     simp [h1]
   rw [key] at h
   have h2:=List.append_inj' h rfl
   refine ⟨h2.1,.inl rfl,fun _=>⟨hs,?_⟩⟩
   rw [h2.1] at key
   simp only [Node.text]
   rw [key,h2.2]
 ·simp only [if_neg hk] at h
  have h2:=List.append_inj' h rfl
  refine ⟨h2.1,.inr ?_,fun e=>absurd e hk⟩
  simpa [Node.jn] using h2.2
theorem Jn.mems:∀ (m:Nat) {l:List Node},l.length=m→Jn l→∀ n,n∈l→n.J
 | 0,l,hl,_,n,hn=>by rw [List.length_eq_zero_iff.1 hl] at hn; simp at hn
 | m+1,l,hl,h,n,hn=>by
   rcases List.eq_nil_or_concat l with rfl | ⟨i,a,rfl⟩
   ·simp at hn
   ·rw [List.concat_eq_append] at h hn hl
    obtain ⟨h1,h2,_⟩:=h.snoc
    rcases List.mem_append.1 hn with hn | hn
    ·exact Jn.mems m (by simpa using hl) h1 n hn
    ·simp at hn; subst hn; exact h2
theorem Jn.mem {l:List Node} (h:Jn l):∀ n,n∈l→n.J:=Jn.mems l.length rfl h
theorem aTf (d:List Node) (q s:List UInt8):aCj (d++[tx q]) s=d++[tx (q++s)]:=by
 simp [aCj,tx]
theorem aNn (out:List Node) {q:List UInt8} (h:q≠[]):(tx q).jstep out=aCj out q:=by simp [tx,Node.jstep,h]
theorem Jn.push {l:List Node} (h:Jn l) {s:List UInt8} (hs:s≠[]):Jn (aCj l s):=by
 rcases List.eq_nil_or_concat l with rfl | ⟨i,a,rfl⟩
 ·have:aCj [] s=[tx s]:=rfl
  rw [this,Jn]
  simp [aDy,aNn _ hs,this]
 ·rw [List.concat_eq_append] at h ⊢
  obtain ⟨h1,h2,h3⟩:=h.snoc
  obtain ⟨k,t,q,ks,as⟩:=a
  by_cases hk:k=1
  ·subst hk
   obtain ⟨h4,h5⟩:=h3 rfl
   have ha:=aUx h5
   rw [h5] at ha
   have ha:=(List.append_inj' ha rfl).2
   simp only [Node.text,List.cons.injEq,and_true] at ha h4 h5
   rw [ha]
   show Jn (aCj (i++[tx q]) s)
   rw [aTf,Jn,aDp,h1]
   have e1:aCj i q=i++[tx q]:=by rw [h5,ha]; rfl
   have hq:q++s≠[]:=by simp [h4]
   simp only [aDy]
   rw [aNn _ hq]
   unfold aCj at e1 ⊢
   split at e1
   ·split at e1
    ·rename_i h7 h8
     exfalso
     have hne:i≠[]:=by rintro rfl; simp at h7
     have h5:=congrArg List.length e1
     have h6:=List.length_pos_iff.2 hne
     simp only [List.length_append,List.length_dropLast,List.length_singleton] at h5
     omega
    ·rename_i h7 h8
     simp [h7,h8,tx]
   ·rename_i h7
    simp [h7,tx]
  ·have e1:aCj (i++[.mk k t q ks as]) s=(i++[.mk k t q ks as])++[tx s]:=by simp [aCj,hk,tx]
   rw [e1,Jn,aDp,h]
   simp only [aDy]
   rw [aNn _ hs,e1]
theorem Jn.addN {l:List Node} {n:Node} (h:Jn l) (hn:n.J):Jn (addN n l):=by
 unfold Go.Ab.addN
 split
 ·split
  ·exact h
  ·exact h.push (by assumption)
 ·rename_i hk
  have hj:=hn.resolve_left hk
  obtain ⟨k,t,s,ks,as⟩:=n
  simp only [Node.kind] at hk
  simp only [Node.jn] at hj
  rw [Jn,aDp,h]
  simp [aDy,Node.jstep,hk,hj]
theorem tx_J (q:List UInt8):(tx q).J:=.inl rfl
theorem bCy {l:List Arg} (h:∀ a,a∈l→Jn a.nm∧Jn a.val):aV0 l=l:=by
 induction l with
 | nil=>simp [aV0]
 | cons a r ih =>
   have h1:=h a (by simp)
   obtain ⟨b,n,v⟩:=a
   simp only [aV0,Arg.jn,ih fun x hx=>h x (by simp [hx])]
   rw [show aDy [] n=n from h1.1,show aDy [] v=v from h1.2]
theorem mk_J {k t:Int} {s:List UInt8} {ks:List Node} {as:List Arg} (h:Jn ks) (ha:∀ a,a∈as→Jn a.nm∧Jn a.val):(Node.mk k t s ks as).J:=by
 right
 simp only [Node.jn]
 rw [show aDy [] ks=ks from h,bCy ha]
structure El.jk (e:El):Prop where
 args:e.kind≠3→e.args=[]
 list:Jn e.list
 argJ:∀ a,a∈e.args→Jn a.nm∧Jn a.val
def El.src (e:El):List UInt8:=e.head++(srcs e.list++srcA e.args)
def Okk (st:List El):Prop:=∀ e,e∈st→e.jk
def aBj:List El→List UInt8
 | []=>[]
 | e::r=>aBj r++e.src
def kt (st:List El):List (Nat×Nat×Nat):=st.map fun e=>(e.kind,e.tag,e.count)
theorem aN1 (q:List UInt8):(tx q).src=q:=by simp [tx,Node.src]
theorem aZu {n:Node} (h:n.kind=1):n.src=n.text:=by obtain ⟨k,t,s,ks,as⟩:=n; simp only [Node.kind] at h; subst h; simp [Node.src,Node.text]
theorem aWd (l:List Node) (s:List UInt8):srcs (aCj l s)=srcs l++s:=by
 have h0:srcs (l++[.mk 1 0 s [] []])=srcs l++s:=by simp [aBx,srcs,Node.src]
 rcases List.eq_nil_or_concat l with rfl | ⟨i,a,rfl⟩
 ·simpa [aCj] using h0
 ·rw [List.concat_eq_append] at h0 ⊢
  obtain ⟨k,t,q,ks,as⟩:=a
  by_cases hk:k=1
  ·subst hk
   simp [aCj,aBx,srcs,Node.src]
  ·simp only [aCj,List.getLast?_concat,hk,if_false]
   exact h0
theorem aO2 (n:Node) (l:List Node):srcs (addN n l)=srcs l++n.src:=by
 unfold addN
 split
 ·rename_i h
  rw [aZu h]
  split
  ·rename_i h2; simp [h2]
  ·exact aWd _ _
 ·simp [aBx,srcs]
theorem bB4 (n:Node) (e:El):(e.add n).head=e.head:=by simp only [El.add]; split <;> rfl
theorem bK1 {n:Node} {e:El} (h:e.jk) (hn:n.J):(e.add n).jk:=by
 unfold El.add
 split
 ·rename_i h3
  refine ⟨fun hk=>absurd h3.1 (by simpa using hk),h.list,?_⟩
  obtain ⟨-,h4⟩:=h3
  have hj:=h.argJ
  simp only
  generalize e.args=as at h4 hj ⊢
  rcases List.eq_nil_or_concat as with rfl | ⟨i,a,rfl⟩
  ·exact absurd rfl h4
  ·rw [List.concat_eq_append] at hj ⊢
   rw [aBo]
   intro b hb
   rcases List.mem_append.1 hb with hb | hb
   ·exact hj b (by simp [hb])
   ·simp only [List.mem_singleton] at hb
    subst hb
    have ha:=hj a (by simp)
    obtain ⟨x,y,z⟩:=a
    exact ⟨ha.1,ha.2.addN hn⟩
 ·exact ⟨h.args,h.list.addN hn,h.argJ⟩
theorem bG7 {n:Node} {e:El} (h:e.jk):(e.add n).src=e.src++n.src:=by
 have hh:=bB4 n e
 unfold El.src
 rw [hh]
 unfold El.add
 split
 ·rename_i h3
  obtain ⟨-,h4⟩:=h3
  simp only
  generalize e.args=as at h4 ⊢
  rcases List.eq_nil_or_concat as with rfl | ⟨i,a,rfl⟩
  ·exact absurd rfl h4
  ·rw [List.concat_eq_append,aBo]
   obtain ⟨b,x,v⟩:=a
   simp [aCv,srcA,Arg.setVal,Arg.src,Arg.val,aO2,List.append_assoc]
 ·rename_i h3
  have ha:e.args=[]:=by
   by_cases h1:e.kind=3
   ·by_cases h2:e.args=[]
    ·exact h2
    ·exact absurd ⟨h1,h2⟩ h3
   ·exact h.args h1
  simp [aO2,ha,srcA]
theorem bKm {n:Node} {st:List El}:kt (addS n st)=kt st:=by
 cases st with
 | nil=>rfl
 | cons e r=>simp only [addS,kt,List.map_cons,El.add]; split <;> rfl
theorem bGh {l:List Node}:∀ {st:List El},kt (aC5 l st)=kt st:=by
 induction l with
 | nil=>intro st; rfl
 | cons n r ih=>intro st; rw [aCh,ih,bKm]
theorem aSm:∀ (k:Nat) {st:List El},kt (flatN k st)=(kt st).drop k
 | 0,st=>by simp [flatN]
 | k+1,st=>by
   have h1:kt (flat1 st)=(kt st).drop 1:=by
    cases st with
    | nil=>rfl
    | cons e r=>have:=bGh (l:=e.pieces) (st:=r); simpa [flat1,kt] using this
   rw [flatN,aSm k,h1,List.drop_drop,Nat.add_comm]
theorem aP3 {n:Node} {st:List El} (h:Okk st) (hn:n.J):Okk (addS n st):=by
 cases st with
 | nil=>exact h
 | cons e r =>
   intro x hx
   rcases List.mem_cons.1 hx with rfl | hx
   ·exact bK1 (h e (by simp)) hn
   ·exact h x (by simp [hx])
theorem aTn {n:Node} {st:List El} (h:Okk st) (hne:st≠[]):aBj (addS n st)=aBj st++n.src:=by
 cases st with
 | nil=>exact absurd rfl hne
 | cons e r=>simp [addS,aBj,bG7 (h e (by simp)),List.append_assoc]
theorem aS5 {l:List Node}:∀ {st:List El},Okk st→(∀ n,n∈l→n.J)→Okk (aC5 l st):=by
 induction l with
 | nil=>intro st h _; exact h
 | cons n r ih=>intro st h hn; rw [aCh]; exact ih (aP3 h (hn n (by simp))) fun x hx=>hn x (by simp [hx])
theorem aNw {l:List Node}:∀ {st:List El},Okk st→(∀ n,n∈l→n.J)→st≠[]→aBj (aC5 l st)=aBj st++srcs l:=by
 induction l with
 | nil=>intro st h _ _; simp [aJu,srcs]
 | cons n r ih =>
   intro st h hn hne
   rw [aCh,ih (aP3 h (hn n (by simp))) (fun x hx=>hn x (by simp [hx])) (aEd hne),aTn h hne]
   simp [srcs,List.append_assoc]
theorem aSw {e:El} (h:e.jk):∀ n,n∈e.pieces→n.J:=by
 intro n hn
 unfold El.pieces at hn
 rcases List.mem_cons.1 hn with rfl | hn
 ·exact tx_J _
 rcases List.mem_append.1 hn with hn | hn
 ·exact h.list.mem n hn
 ·obtain ⟨a,ha,hn⟩:=List.mem_flatMap.1 hn
  have hj:=h.argJ a ha
  obtain ⟨b,x,v⟩:=a
  simp only [Arg.pieces] at hn
  rcases List.mem_cons.1 hn with rfl | hn
  ·exact tx_J _
  rcases List.mem_append.1 hn with hn | hn
  ·split at hn
   ·rcases List.mem_append.1 hn with hn | hn
    ·exact hj.1.mem n hn
    ·simp at hn; subst hn; exact tx_J _
   ·simp at hn
  ·exact hj.2.mem n hn
theorem aQe (e:El):srcs e.pieces=e.src:=by
 have:∀ l:List Arg,srcs (l.flatMap Arg.pieces)=srcA l:=by
  intro l
  induction l with
  | nil=>simp [srcs,srcA]
  | cons a r ih =>
    obtain ⟨b,x,v⟩:=a
    simp only [List.flatMap_cons,aBx,ih,srcA,Arg.pieces,srcs,aN1,Arg.src]
    cases b <;> simp [aBx,srcs,aN1]
 simp [El.pieces,El.src,srcs,aN1,aBx,this]
theorem aSu {st:List El} (h:Okk st):Okk (flat1 st):=by
 cases st with
 | nil=>exact h
 | cons e r=>exact aS5 (fun x hx=>h x (by simp [hx])) (aSw (h e (by simp)))
theorem aXl {e:El} {r:List El} (h:Okk (e::r)) (hr:r≠[]):aBj (flat1 (e::r))=aBj (e::r):=by
 simp only [flat1]
 rw [aNw (fun x hx=>h x (by simp [hx])) (aSw (h e (by simp))) hr,aQe]
 rfl
theorem aNg:∀ (k:Nat) {st:List El},Okk st→Okk (flatN k st)
 | 0,st,h=>h
 | k+1,st,h=>by rw [flatN]; exact aNg k (aSu h)
theorem aJ4:∀ (k:Nat) {st:List El},Okk st→k<st.length→aBj (flatN k st)=aBj st
 | 0,st,_,_=>rfl
 | k+1,st,h,hk=>by
   cases st with
   | nil=>simp at hk
   | cons e r =>
     simp only [List.length_cons] at hk
     rw [flatN,aJ4 k (aSu h) (by rw [aDt]; simp; omega),aXl h (by intro e2; subst e2; simp at hk)]
end Go.Ab
namespace Go.Ab
structure Sv (st:List El):Prop where
 inv:SInv st
 ok:Okk st
theorem Sv.ne {st:List El} (h:Sv st):st≠[]:=h.inv.ne
theorem Sv.add {st:List El} (h:Sv st) {n:Node} (hn:n.J):Sv (addS n st)∧aBj (addS n st)=aBj st++n.src :=
 ⟨⟨h.inv.same aFu,aP3 h.ok hn⟩,aTn h.ok h.ne⟩
theorem Sv.txt {st:List El} (h:Sv st) (q:List UInt8):Sv (addS (tx q) st)∧aBj (addS (tx q) st)=aBj st++q:=by
 have:=h.add (tx_J q)
 rwa [aN1] at this
theorem Sv.adds {st:List El} (h:Sv st) {l:List Node} (hn:∀ n,n∈l→n.J):Sv (aC5 l st)∧aBj (aC5 l st)=aBj st++srcs l :=
 ⟨⟨h.inv.same aQo,aS5 h.ok hn⟩,aNw h.ok hn h.ne⟩
theorem Sv.open_ {st:List El} (h:Sv st) {e:El} {s:List UInt8} (h1:e.list=[]) (h2:e.args=[]) (hk:e.kind=3→2≤e.count) (hs:e.head=s) :
 Sv (aG2 e s st)∧aBj (aG2 e s st)=aBj st++s:=by
 unfold aG2
 split
 ·exact h.txt s
 ·refine ⟨⟨h.inv.push (q:=(e.kind,e.count)) rfl hk,fun x hx=>?_⟩,?_⟩
  ·rcases List.mem_cons.1 hx with rfl | hx
   ·exact ⟨fun _=>h2,by rw [h1]; exact Jn.nil,by rw [h2]; simp⟩
   ·exact h.ok x hx
  ·simp [aBj,El.src,h1,h2,srcs,srcA,hs]
theorem bGd {k:Nat} (h1:1≤k) (h2:k≤3):aA9 tagO (tagO k)=k:=by
 have:k=1∨k=2∨k=3:=by omega
 rcases this with rfl | rfl | rfl <;> simp [aA9,tagO,aAt]
theorem bF7 {k:Nat} (h1:1≤k) (h2:k≤3):aA9 tagC (tagC k)=k:=by
 have:k=1∨k=2∨k=3:=by omega
 rcases this with rfl | rfl | rfl <;> simp [aA9,tagC,aAt]
theorem Sv.bar {st:List El} (h:Sv st):Sv (barF st)∧aBj (barF st)=aBj st++[124]:=by
 cases st with
 | nil=>exact absurd rfl h.ne
 | cons e r =>
   simp only [barF]
   split
   ·rename_i hk
    have he:=h.ok e (by simp)
    refine ⟨⟨h.inv.same rfl,fun x hx=>?_⟩,?_⟩
    ·rcases List.mem_cons.1 hx with rfl | hx
     ·refine ⟨fun hn=>absurd hk hn,he.list,fun a ha=>?_⟩
      rcases List.mem_append.1 ha with ha | ha
      ·exact he.argJ a ha
      ·simp at ha; subst ha; exact ⟨Jn.nil,Jn.nil⟩
     ·exact h.ok x (by simp [hx])
    ·simp [aBj,El.src,El.head,aCv,srcA,Arg.src,srcs,hk,List.append_assoc]
   ·exact h.txt [124]
theorem Sv.eq {st:List El} (h:Sv st):Sv (eqF st)∧aBj (eqF st)=aBj st++[61]:=by
 cases st with
 | nil=>exact absurd rfl h.ne
 | cons e r =>
   simp only [eqF]
   split
   ·rename_i hk
    obtain ⟨hk,hl⟩:=hk
    have he:=h.ok e (by simp)
    have hj:=he.argJ
    have key:(∀ a,a∈aEl (fun a=>Arg.mk true a.val []) e.args→Jn a.nm∧Jn a.val)∧srcA (aEl (fun a=>Arg.mk true a.val []) e.args)=srcA e.args++[61]:=by
     generalize e.args=as at hl hj ⊢
     rcases List.eq_nil_or_concat as with rfl | ⟨i,a,rfl⟩
     ·simp [aEz] at hl
     ·rw [List.concat_eq_append] at hl hj ⊢
      rw [aEv] at hl
      rw [aBo]
      obtain ⟨b,x,v⟩:=a
      simp only [Arg.named] at hl
      subst hl
      constructor
      ·intro c hc
       rcases List.mem_append.1 hc with hc | hc
       ·exact hj c (by simp [hc])
       ·simp only [List.mem_singleton] at hc
        subst hc
        exact ⟨(hj (.mk false x v) (by simp)).2,Jn.nil⟩
      ·simp [aCv,srcA,Arg.src,Arg.val,srcs]
    refine ⟨⟨h.inv.same rfl,fun x hx=>?_⟩,?_⟩
    ·rcases List.mem_cons.1 hx with rfl | hx
     ·exact ⟨fun hn=>absurd hk hn,he.list,key.1⟩
     ·exact h.ok x (by simp [hx])
    ·simp only [aBj,El.src,key.2]
     simp [El.head,hk,List.append_assoc]
   ·exact h.txt [61]
theorem Sv.link {st:List El} (h:Sv st):Sv (aPf st)∧aBj (aPf st)=aBj st++[93,93]:=by
 cases st with
 | nil=>exact absurd rfl h.ne
 | cons e r =>
   simp only [aPf]
   split
   ·rename_i hk
    have he:=h.ok e (by simp)
    have hr:Sv r:=⟨h.inv.drop (k:=1) rfl (by have:=h.inv.kind1 hk; cases r with | nil=>exact absurd rfl this | cons a b=>simp),fun x hx=>h.ok x (by simp [hx])⟩
    have hJ:∀ n,n∈tx [91,91]::(e.list++[tx [93,93]])→n.J:=by
     intro n hn
     simp only [List.mem_cons,List.mem_append,List.mem_singleton,List.not_mem_nil,or_false] at hn
     rcases hn with rfl | hn | rfl
     ·exact tx_J _
     ·exact he.list.mem n hn
     ·exact tx_J _
    obtain ⟨h1,h2⟩:=hr.adds hJ
    refine ⟨h1,h2.trans ?_⟩
    have ha:=he.args (by omega)
    simp [aBj,El.src,El.head,hk,ha,srcA,srcs,aBx,aN1,List.append_assoc]
   ·exact h.txt [93,93]
theorem Sv.flat {st:List El} (h:Sv st) {k:Nat} (hk:k+1<st.length):∃ e r,flatN k st=e::r∧e.jk∧Sv r∧aBj r++e.src=aBj st∧(kt st)[k]?=some (e.kind,e.tag,e.count):=by
 obtain ⟨e,r,h1,h2,h3⟩:=aGg (k:=k) (els:=st) (by omega)
 have hok:=aNg k h.ok
 have hsr:=aJ4 k h.ok (by omega)
 rw [h1] at hok hsr
 have hdr:kc r=(kc st).drop (k+1):=by
  have:=congrArg List.tail h2
  simpa [kc,List.tail_drop] using this
 refine ⟨e,r,h1,hok e (by simp),⟨h.inv.drop hdr hk,fun x hx=>hok x (by simp [hx])⟩,hsr,?_⟩
 have h4:=aSm k (st:=st)
 rw [h1] at h4
 have h5:=congrArg (·[0]?) h4
 simp only [List.getElem?_drop,kt,List.map_cons,List.getElem?_cons_zero] at h5
 simpa [kt] using h5.symm
theorem aO6 (t:Nat):∀ {st:List El} {k:Nat},aDo t st=some k→∃ c,(kt st)[k]?=some (2,t,c)
 | [],k,h=>by simp [aDo] at h
 | [_],k,h=>by simp [aDo] at h
 | e::b::r,k,h=>by
   simp only [aDo] at h
   split at h
   ·rename_i h2
    cases h
    exact ⟨e.count,by simp [kt,h2.1,h2.2]⟩
   ·cases h3:aDo t (b::r) with
    | none=>simp [h3] at h
    | some j =>
      simp [h3] at h
      subst h
      obtain ⟨c,hc⟩:=aO6 t h3
      exact ⟨c,by simpa [kt] using hc⟩
theorem aKz:∀ {st:List El} {k:Nat},aAv st=some k→∃ t c,(kt st)[k]?=some (3,t,c)
 | [],k,h=>by simp [aAv] at h
 | [_],k,h=>by simp [aAv] at h
 | e::b::r,k,h=>by
   simp only [aAv] at h
   split at h
   ·simp at h
   ·split at h
    ·rename_i h2
     cases h
     exact ⟨e.tag,e.count,by simp [kt,h2]⟩
    ·cases h3:aAv (b::r) with
     | none=>simp [h3] at h
     | some j =>
       simp [h3] at h
       subst h
       obtain ⟨t,c,hc⟩:=aKz h3
       exact ⟨t,c,by simpa [kt] using hc⟩
theorem Sv.tag {st:List El} (h:Sv st) {t:Nat} (h1:1≤t) (h3:t≤3):Sv (tagF t (tagC t) st)∧aBj (tagF t (tagC t) st)=aBj st++tagC t:=by
 unfold tagF
 cases hb:aDo t st with
 | none=>exact h.txt _
 | some k =>
   obtain ⟨e,r,g1,g2,g3,g4,g5⟩:=h.flat (aOt hb)
   obtain ⟨c,hc⟩:=aO6 t hb
   rw [g5] at hc
   simp only [Option.some.injEq,Prod.mk.injEq] at hc
   obtain ⟨hk,ht,-⟩:=hc
   simp only [g1]
   obtain ⟨k1,k2⟩:=g3.add (n:=.mk 6 t [] e.list []) (mk_J g2.list (by simp))
   refine ⟨k1,k2.trans ?_⟩
   rw [← g4]
   have ha:=g2.args (by omega)
   have e1:(1:Int)≤(t:Nat):=by omega
   have e2:((t:Nat):Int)≤3:=by omega
   simp [Node.src,El.src,El.head,hk,ht,ha,srcA,tagO,tagC,e1,e2,List.append_assoc]
theorem aSi {c:Nat} {e:El}:(useN c e).src=List.replicate (useK c e.count) 123++(srcs e.list++srcA e.args)++List.replicate (useK c e.count) 125:=by
 unfold useN
 have:useK c e.count=2∨useK c e.count=3:=by unfold useK; split <;> simp
 rcases this with h | h <;> simp [Node.src,h,List.replicate,List.append_assoc]
theorem aW3 {a b:Nat} (h:a≤b) (c:UInt8):List.replicate b c=List.replicate (b-a) c++List.replicate a c:=by
 rw [List.replicate_append_replicate]; congr 1; omega
theorem aLj {a b:Nat} (h:a≤b) (c:UInt8):List.replicate b c=List.replicate a c++List.replicate (b-a) c:=by
 rw [List.replicate_append_replicate]; congr 1; omega
theorem Sv.close:∀ (n c:Nat) {st:List El},Sv st→Sv (aB9 n c st)∧aBj (aB9 n c st)=aBj st++List.replicate c 125
 | 0,c,st,h=>h.txt _
 | n+1,c,st,h=>by
   rw [aB9]
   split
   ·rename_i h2
    cases hb:aAv st with
    | none=>exact h.txt _
    | some k =>
      obtain ⟨e,r,g1,g2,g3,g4,g5⟩:=h.flat (aK0 hb)
      obtain ⟨t,c',hc⟩:=aKz hb
      have hcn:=h.inv.cn
      have hmem:(e.kind,e.count)∈kc st:=by
       obtain ⟨a,b⟩:=List.getElem?_eq_some_iff.1 g5
       have:(e.kind,e.tag,e.count)∈kt st:=List.mem_of_getElem? g5
       simp only [kt,List.mem_map] at this
       obtain ⟨x,hx,hx2⟩:=this
       simp only [Prod.mk.injEq] at hx2
       simp only [kc,List.mem_map]
       exact ⟨x,hx,by rw [hx2.1,hx2.2.2]⟩
      rw [g5] at hc
      simp only [Option.some.injEq,Prod.mk.injEq] at hc
      obtain ⟨hk,-,-⟩:=hc
      have h2c:=hcn _ hmem hk
      simp only at h2c
      have hu:2≤useK c e.count∧useK c e.count≤c∧useK c e.count≤e.count:=by unfold useK; split <;> omega
      have hJ:(useN c e).J:=mk_J g2.list g2.argJ
      have hsrc:e.src=List.replicate (e.count-useK c e.count) 123++(List.replicate (useK c e.count) 123++(srcs e.list++srcA e.args)):=by
       rw [El.src,El.head,if_neg (by omega),if_neg (by omega),if_pos hk,aW3 hu.2.2,List.append_assoc]
      simp only [g1]
      split
      ·rename_i h3
       have hsv:Sv ({ e with count:=e.count-useK c e.count,list:=[useN c e],args:=[] }::r):=by
        refine ⟨g3.inv.push (q:=(e.kind,e.count-useK c e.count)) rfl fun _=>h3,fun x hx=>?_⟩
        rcases List.mem_cons.1 hx with rfl | hx
        ·refine ⟨fun _=>rfl,?_,by simp⟩
         have h0:=Jn.nil.addN hJ
         have:addN (useN c e) []=[useN c e]:=by
          unfold addN
          rw [if_neg]
          ·rfl
          ·unfold useN; simp only [Node.kind]; split <;> decide
         rwa [this] at h0
        ·exact g3.ok x hx
       obtain ⟨k1,k2⟩:=Sv.close n (c-useK c e.count) hsv
       refine ⟨k1,k2.trans ?_⟩
       rw [← g4,aLj hu.2.1 125,hsrc]
       simp [aBj,El.src,El.head,hk,srcs,srcA,aSi,List.append_assoc]
      ·have hsv:Sv (if e.count-useK c e.count=1 then addS (tx [123]) r else r)∧aBj (if e.count-useK c e.count=1 then addS (tx [123]) r else r)=aBj r++List.replicate (e.count-useK c e.count) 123:=by
        split
        ·rename_i h1; rw [h1]; exact g3.txt [123]
        ·have:e.count-useK c e.count=0:=by omega
         rw [this]; exact ⟨g3,by simp⟩
       obtain ⟨j1,j2⟩:=hsv.1.add hJ
       obtain ⟨k1,k2⟩:=Sv.close n (c-useK c e.count) j1
       refine ⟨k1,k2.trans ?_⟩
       rw [j2,hsv.2,← g4,aLj hu.2.1 125,hsrc,aSi]
       simp [List.append_assoc]
   ·exact h.txt _
theorem Sv.take {s:List UInt8} {t:Tok} {st:List El} (hg:t.good s) (h:Sv st):Sv (aBr s t st)∧aBj (aBr s t st)=aBj st++t.text s:=by
 have hl:(t.text s).length=t.to-t.fr:=Tok.text_length hg.le
 have hx:=hg.txt
 have he:=Tok.text_eq (s:=s) (t:=t)
 unfold aBr
 split
 ·have:=h.add (n:=.mk 2 0 (t.text s) [] []) (mk_J Jn.nil (by simp))
  simpa [Node.src] using this
 split
 ·rename_i h9 h10
  have hf:=(hx.resolve_left (by omega)).wiki h10
  simp only at hf
  have key:aFj++((t.text s).take ((t.text s).length-9)).drop 8++aDf=t.text s:=by
   obtain ⟨w1,w2,w3⟩:=hf
   have e1:(t.text s).take 8=aFj:=by
    rw [List.isPrefixOf_iff_prefix] at w2
    obtain ⟨z,hz⟩:=w2
    rw [he,← hz,List.take_take,Nat.min_eq_left (by omega),List.take_append_of_le_length (by decide)]
    rfl
   have e2:(t.text s).drop ((t.text s).length-9)=aDf:=by
    rw [List.isPrefixOf_iff_prefix] at w3
    obtain ⟨z,hz⟩:=w3
    rw [hl,he,List.drop_take,← hz,List.take_append_of_le_length (by show _≤9; omega)]
    have:t.to-t.fr-(t.to-t.fr-9)=9:=by omega
    rw [this]; rfl
   have e3:((t.text s).take ((t.text s).length-9))=aFj++((t.text s).take ((t.text s).length-9)).drop 8:=by
    have:=(List.take_append_drop 8 ((t.text s).take ((t.text s).length-9))).symm
    rw [List.take_take,Nat.min_eq_left (by omega),e1] at this
    exact this
   rw [← e3]
   have:=List.take_append_drop ((t.text s).length-9) (t.text s)
   rw [e2] at this
   exact this
  have:=h.add (n:=.mk 3 0 (((t.text s).take ((t.text s).length-9)).drop 8) [] []) (mk_J Jn.nil (by simp))
  have e0:(Node.mk 3 0 (((t.text s).take ((t.text s).length-9)).drop 8) [] []).src=t.text s:=by
   rw [← key]; simp [Node.src,aFj,aDf,hl]
  rwa [e0] at this
 split
 ·rename_i h3
  have hf:=(hx.resolve_left (by omega)).open_ h3
  simp only at hf
  have ht:t.text s=List.replicate (t.to-t.fr) 123:=by rw [he]; exact hf.2
  refine h.open_ rfl rfl (fun _=>by show 2≤(t.text s).length; omega) ?_
  simp only [El.head]
  rw [hl]; simp [ht]
 split
 ·rename_i h5
  have hf:=(hx.resolve_left (by omega)).link h5
  simp only at hf
  exact h.open_ rfl rfl (fun e=>by simp at e) (by rw [he,hf]; rfl)
 split
 ·rename_i h11
  obtain ⟨k,k1,k2,k3⟩:=hg.tagO h11
  refine h.open_ rfl rfl (fun e=>by simp at e) ?_
  have:t.tag s=k:=by rw [Tok.tag,if_pos h11,k3]; exact bGd k1 k2
  simp [El.head,this,k3]
 split
 ·rename_i h7
  have hf:=(hx.resolve_left (by omega)).bar h7
  simp only at hf
  rw [he,hf]
  exact h.bar
 split
 ·rename_i h8
  have hf:=(hx.resolve_left (by omega)).eq h8
  simp only at hf
  rw [he,hf]
  exact h.eq
 split
 ·rename_i h6
  have hf:=(hx.resolve_left (by omega)).linkC h6
  simp only at hf
  rw [he,hf]
  exact h.link
 split
 ·rename_i h12
  obtain ⟨k,k1,k2,k3⟩:=hg.tagC h12
  have:t.tag s=k:=by rw [Tok.tag,if_neg (by omega),if_pos h12,k3]; exact bF7 k1 k2
  rw [this,k3]
  exact h.tag k1 k2
 split
 ·rename_i h4
  have hf:=(hx.resolve_left (by omega)).close h4
  simp only at hf
  have ht:t.text s=List.replicate (t.to-t.fr) 125:=by rw [he]; exact hf.2
  have:=Sv.close (t.text s).length (t.text s).length h
  rw [hl] at this ⊢
  rwa [ht]
 ·exact h.txt _
theorem Sv.run {s:List UInt8}:∀ (l:List Tok) {st:List El},(∀ t,t∈l→t.good s)→Sv st→Sv (runF s l st)∧aBj (runF s l st)=aBj st++l.flatMap (Tok.text s)
 | [],st,_,h=>⟨h,by simp [runF]⟩
 | t::r,st,hg,h=>by
   obtain ⟨h1,h2⟩:=Sv.take (hg t (by simp)) h
   obtain ⟨g1,g2⟩:=Sv.run r (fun x hx=>hg x (by simp [hx])) h1
   refine ⟨g1,?_⟩
   have e:runF s (t::r) st=runF s r (aBr s t st):=rfl
   rw [e,g2,h2]
   simp [List.append_assoc]
theorem aKb (s:List UInt8):∀ (n t i:Nat),t≤i→i≤s.length→s.length<n+i→(aF8 s n t i).flatMap (Tok.text s)=s.drop t
 | 0,t,i,h1,h2,h3=>by omega
 | n+1,t,i,h1,h2,h3=>by
   rw [aF8]
   split
   ·rename_i hi
    split
    ·exact aKb s n t (i+1) (by omega) (by omega) (by omega)
    ·rename_i hf
     have fs:=aH2 hf
     have hle:=fs.le
     have hpos:=fs.pos
     rw [List.length_drop] at hle
     have ih:=aKb s n (i+(aA0 (s.drop i)).2) (i+(aA0 (s.drop i)).2) (Nat.le_refl _) (by omega) (by omega)
     rw [List.flatMap_append,List.flatMap_cons,ih]
     have e1:(if t<i then [(⟨1,t,i⟩:Tok)] else []).flatMap (Tok.text s)=(s.drop t).take (i-t):=by
      split
      ·simp [Tok.text_eq]
      ·have:i-t=0:=by omega
       simp [this]
     rw [e1,Tok.text_eq]
     simp only
     have e2:i+(aA0 (s.drop i)).2-i=(aA0 (s.drop i)).2:=by omega
     rw [e2,← List.drop_drop,List.take_append_drop]
     have e3:s.drop i=(s.drop t).drop (i-t):=by rw [List.drop_drop]; congr 1; omega
     rw [e3,List.take_append_drop]
   ·rename_i hi
    split
    ·have:(s.drop t).take (s.length-t)=s.drop t:=List.take_of_length_le (by simp)
     simp [Tok.text_eq,this]
    ·have:s.drop t=[]:=List.drop_eq_nil_iff.2 (by omega)
     simp [this]
theorem aZc:Sv [root]:=⟨⟨by simp [Cn,kc,root],[],rfl⟩,fun e he=>by
 simp at he; subst he
 exact ⟨fun _=>rfl,Jn.nil,by simp [root]⟩⟩
theorem bI4 (s:List UInt8):Sv (runF s (scan s) [root])∧aBj (runF s (scan s) [root])=s:=by
 obtain ⟨h1,h2⟩:=Sv.run (scan s) (aKf s).1 aZc
 refine ⟨h1,h2.trans ?_⟩
 have:=aKb s (s.length+1) 0 0 (Nat.le_refl _) (Nat.zero_le _) (by omega)
 rw [scan,this]
 simp [aBj,El.src,El.head,root,srcs,srcA]
theorem bIu {st:List El} (h:Sv st):srcs (finF st)=aBj st∧Jn (finF st):=by
 obtain ⟨e,r,h1,h2,h3⟩:=aGg (k:=st.length-1) (els:=st) (by have:=List.length_pos_iff.2 h.ne; omega)
 have hok:=aNg (st.length-1) h.ok
 have hpos:=List.length_pos_iff.2 h.ne
 have hsr:=aJ4 (st.length-1) h.ok (by omega)
 have hr:r=[]:=List.length_eq_zero_iff.1 (by omega)
 subst hr
 rw [h1] at hok hsr
 have hk:e.kind=0∧e.count=0:=by
  obtain ⟨a,ha⟩:=h.inv.root
  have hl:a.length=st.length-1:=by have:=congrArg List.length ha; simp [kc] at this; omega
  rw [ha,← hl,List.drop_left] at h2
  simpa [kc] using h2
 have he:=hok e (by simp)
 simp only [finF,h1]
 refine ⟨?_,he.list⟩
 rw [← hsr]
 simp [aBj,El.src,El.head,hk.1,he.args (by omega),srcA]
theorem aGw (s:List UInt8):srcs (aCc s)=s:=by
 obtain ⟨h1,h2⟩:=bI4 s
 rw [aCc,(bIu h1).1,h2]
end Go.Ab
