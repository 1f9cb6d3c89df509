/- Several texts of one kind, merged. No condition. -/
import Derived.Test.YtdhhhhnbobdcoaaGreatDoorAbP3
import Derived.Lib.Index
import Derived.Lib.Repeat
set_option linter.unusedSimpArgs false
set_option linter.unusedVariables false
namespace Go.Ab
open Go.RowKit
variable {P:Program} {F:Nat→Nat}
theorem vs2 {vs:Array Value} {D:Nat→Prop} {w:World} {a b:V} (hl:[a,b].length=vs.size)
 (h:∀ i x,[a,b][i]?=some x→Rep (fun _=>none) D w x (vs.getD i undef)):∃ u v,vs=#[u,v]∧Rep (fun _=>none) D w a u∧Rep (fun _=>none) D w b v:=by
 refine ⟨vs.getD 0 undef,vs.getD 1 undef,?_,h 0 a rfl,h 1 b rfl⟩
 apply Array.ext
 ·simpa using hl.symm
 ·intro i h1 h2
  match i with
  | 0=>simp [Array.getD,show 0<vs.size by simpa using h1]
  | 1=>simp [Array.getD,show 1<vs.size by simpa using h1]
  | k+2=>exact absurd h2 (by simp)
end Go.Ab
namespace Go.Ab
theorem aWx (l:List Node) (s:List UInt8):(aB0 l s).length≤l.length+1:=by
 unfold aB0
 split
 ·split
  ·simp
  ·simp
 ·simp
theorem aXf (n:Node) (out:List Node):(n.jstep out).length≤out.length+1:=by
 obtain ⟨k,t,s,ks,as⟩:=n
 simp only [Node.jstep]
 split
 ·split
  ·omega
  ·exact aWx _ _
 ·simp
theorem aX1 (l:List Node):∀ out,(aC3 out l).length≤out.length+l.length:=by
 induction l with
 | nil=>intro out; simp [aC3]
 | cons n r ih =>
   intro out
   have:=ih (n.jstep out)
   have:=aXf n out
   simp only [aC3,List.length_cons]; omega
def Jn (l:List Node):Prop:=aC3 [] l=l
def Node.J (n:Node):Prop:=n.kind=1∨n.jn=n
theorem Jn.nil:Jn []:=by simp [Jn,aC3]
theorem aSi {d:List Node} {n:Node} {s:List UInt8} (h:aB0 d s=d++[n]):aB0 d s=d++[.mk 1 0 s [] []]:=by
 unfold aB0 at h ⊢
 split at h
 ·split at h
  ·rename_i h1 h2
   exfalso
   have hne:d≠[]:=by rintro rfl; simp at h1
   have:=congrArg List.length h
   have:=List.length_pos_iff.2 hne
   simp at *
   omega
  ·rename_i h1 h2
   simp [h1,h2]
 ·rename_i h1
  simp [h1]
theorem Jn.snoc {d:List Node} {n:Node} (h:Jn (d++[n])):Jn d∧n.J∧(n.kind=1→n.text≠[]∧aB0 d n.text=d++[n]):=by
 unfold Jn at h
 rw [aC1] at h
 simp only [aC3] at h
 have hl:=aX1 d []
 simp only [List.length_nil,Nat.zero_add] at hl
 obtain ⟨k,t,s,ks,as⟩:=n
 simp only [Node.jstep] at h
 by_cases hk:k=1
 ·subst hk
  simp only [if_true] at h
  split at h
  ·rw [h] at hl; simp at hl; omega
  ·rename_i hs
   have key:aB0 (aC3 [] d) s=aC3 [] d++[.mk 1 0 s [] []]:=by
    unfold aB0 at h ⊢
    split at h
    ·split at h
     ·rename_i h1 h2
      exfalso
      have hne:aC3 [] d≠[]:=by intro e; rw [e] at h1; simp at h1
      have h5:=congrArg List.length h
      have h6:=List.length_pos_iff.2 hne
      simp only [List.length_append,List.length_dropLast,List.length_singleton] at h5
      omega
     ·rename_i h1 h2
      simp [h1,h2]
    ·rename_i h1
     simp [h1]
   rw [key] at h
   have h2:=List.append_inj' h rfl
   refine ⟨h2.1,.inl rfl,fun _=>⟨hs,?_⟩⟩
   rw [h2.1] at key
   simp only [Node.text]
   rw [key,h2.2]
 ·simp only [if_neg hk] at h
  have h2:=List.append_inj' h rfl
  refine ⟨h2.1,.inr ?_,fun e=>absurd e hk⟩
  simpa [Node.jn] using h2.2
theorem Jn.mems:∀ (m:Nat) {l:List Node},l.length=m→Jn l→∀ n,n∈l→n.J
 | 0,l,hl,_,n,hn=>by rw [List.length_eq_zero_iff.1 hl] at hn; simp at hn
 | m+1,l,hl,h,n,hn=>by
   rcases List.eq_nil_or_concat l with rfl | ⟨i,a,rfl⟩
   ·simp at hn
   ·rw [List.concat_eq_append] at h hn hl
    obtain ⟨h1,h2,_⟩:=h.snoc
    rcases List.mem_append.1 hn with hn | hn
    ·exact Jn.mems m (by simpa using hl) h1 n hn
    ·simp at hn; subst hn; exact h2
theorem Jn.mem {l:List Node} (h:Jn l):∀ n,n∈l→n.J:=Jn.mems l.length rfl h
theorem aQ0 (d:List Node) (q s:List UInt8):aB0 (d++[tx q]) s=d++[tx (q++s)]:=by
 simp [aB0,tx]
theorem aMc (out:List Node) {q:List UInt8} (h:q≠[]):(tx q).jstep out=aB0 out q:=by simp [tx,Node.jstep,h]
theorem Jn.push {l:List Node} (h:Jn l) {s:List UInt8} (hs:s≠[]):Jn (aB0 l s):=by
 rcases List.eq_nil_or_concat l with rfl | ⟨i,a,rfl⟩
 ·have:aB0 [] s=[tx s]:=rfl
  rw [this,Jn]
  simp [aC3,aMc _ hs,this]
 ·rw [List.concat_eq_append] at h ⊢
  obtain ⟨h1,h2,h3⟩:=h.snoc
  obtain ⟨k,t,q,ks,as⟩:=a
  by_cases hk:k=1
  ·subst hk
   obtain ⟨h4,h5⟩:=h3 rfl
   have ha:=aSi h5
   rw [h5] at ha
   have ha:=(List.append_inj' ha rfl).2
   simp only [Node.text,List.cons.injEq,and_true] at ha h4 h5
   rw [ha]
   show Jn (aB0 (i++[tx q]) s)
   rw [aQ0,Jn,aC1,h1]
   have e1:aB0 i q=i++[tx q]:=by rw [h5,ha]; rfl
   have hq:q++s≠[]:=by simp [h4]
   simp only [aC3]
   rw [aMc _ hq]
   unfold aB0 at e1 ⊢
   split at e1
   ·split at e1
    ·rename_i h7 h8
     exfalso
     have hne:i≠[]:=by rintro rfl; simp at h7
     have h5:=congrArg List.length e1
     have h6:=List.length_pos_iff.2 hne
     simp only [List.length_append,List.length_dropLast,List.length_singleton] at h5
     omega
    ·rename_i h7 h8
     simp [h7,h8,tx]
   ·rename_i h7
    simp [h7,tx]
  ·have e1:aB0 (i++[.mk k t q ks as]) s=(i++[.mk k t q ks as])++[tx s]:=by simp [aB0,hk,tx]
   rw [e1,Jn,aC1,h]
   simp only [aC3]
   rw [aMc _ hs,e1]
theorem Jn.addN {l:List Node} {n:Node} (h:Jn l) (hn:n.J):Jn (addN n l):=by
 unfold Go.Ab.addN
 split
 ·split
  ·exact h
  ·exact h.push (by assumption)
 ·rename_i hk
  have hj:=hn.resolve_left hk
  obtain ⟨k,t,s,ks,as⟩:=n
  simp only [Node.kind] at hk
  simp only [Node.jn] at hj
  rw [Jn,aC1,h]
  simp [aC3,Node.jstep,hk,hj]
theorem tx_J (q:List UInt8):(tx q).J:=.inl rfl
theorem aZ7 {l:List Arg} (h:∀ a,a∈l→Jn a.nm∧Jn a.val):aSw l=l:=by
 induction l with
 | nil=>simp [aSw]
 | cons a r ih =>
   have h1:=h a (by simp)
   obtain ⟨b,n,v⟩:=a
   simp only [aSw,Arg.jn,ih fun x hx=>h x (by simp [hx])]
   rw [show aC3 [] n=n from h1.1,show aC3 [] v=v from h1.2]
theorem mk_J {k t:Int} {s:List UInt8} {ks:List Node} {as:List Arg} (h:Jn ks) (ha:∀ a,a∈as→Jn a.nm∧Jn a.val):(Node.mk k t s ks as).J:=by
 right
 simp only [Node.jn]
 rw [show aC3 [] ks=ks from h,aZ7 ha]
structure El.jk (e:El):Prop where
 args:e.kind≠3→e.args=[]
 list:Jn e.list
 argJ:∀ a,a∈e.args→Jn a.nm∧Jn a.val
def El.src (e:El):List UInt8:=e.head++(srcs e.list++srcA e.args)
def Okk (st:List El):Prop:=∀ e,e∈st→e.jk
def aBc:List El→List UInt8
 | []=>[]
 | e::r=>aBc r++e.src
def kt (st:List El):List (Nat×Nat×Nat):=st.map fun e=>(e.kind,e.tag,e.count)
theorem aN9 (q:List UInt8):(tx q).src=q:=by simp [tx,Node.src]
theorem aWt {n:Node} (h:n.kind=1):n.src=n.text:=by obtain ⟨k,t,s,ks,as⟩:=n; simp only [Node.kind] at h; subst h; simp [Node.src,Node.text]
theorem aVq (l:List Node) (s:List UInt8):srcs (aB0 l s)=srcs l++s:=by
 have h0:srcs (l++[.mk 1 0 s [] []])=srcs l++s:=by simp [aBi,srcs,Node.src]
 rcases List.eq_nil_or_concat l with rfl | ⟨i,a,rfl⟩
 ·simpa [aB0] using h0
 ·rw [List.concat_eq_append] at h0 ⊢
  obtain ⟨k,t,q,ks,as⟩:=a
  by_cases hk:k=1
  ·subst hk
   simp [aB0,aBi,srcs,Node.src]
  ·simp only [aB0,List.getLast?_concat,hk,if_false]
   exact h0
theorem aNk (n:Node) (l:List Node):srcs (addN n l)=srcs l++n.src:=by
 unfold addN
 split
 ·rename_i h
  rw [aWt h]
  split
  ·rename_i h2; simp [h2]
  ·exact aVq _ _
 ·simp [aBi,srcs]
theorem aY3 (n:Node) (e:El):(e.add n).head=e.head:=by simp only [El.add]; split <;> rfl
theorem bGn {n:Node} {e:El} (h:e.jk) (hn:n.J):(e.add n).jk:=by
 unfold El.add
 split
 ·rename_i h3
  refine ⟨fun hk=>absurd h3.1 (by simpa using hk),h.list,?_⟩
  obtain ⟨-,h4⟩:=h3
  have hj:=h.argJ
  simp only
  generalize e.args=as at h4 hj ⊢
  rcases List.eq_nil_or_concat as with rfl | ⟨i,a,rfl⟩
  ·exact absurd rfl h4
  ·rw [List.concat_eq_append] at hj ⊢
   rw [aBr]
   intro b hb
   rcases List.mem_append.1 hb with hb | hb
   ·exact hj b (by simp [hb])
   ·simp only [List.mem_singleton] at hb
    subst hb
    have ha:=hj a (by simp)
    obtain ⟨x,y,z⟩:=a
    exact ⟨ha.1,ha.2.addN hn⟩
 ·exact ⟨h.args,h.list.addN hn,h.argJ⟩
theorem bEm {n:Node} {e:El} (h:e.jk):(e.add n).src=e.src++n.src:=by
 have hh:=aY3 n e
 unfold El.src
 rw [hh]
 unfold El.add
 split
 ·rename_i h3
  obtain ⟨-,h4⟩:=h3
  simp only
  generalize e.args=as at h4 ⊢
  rcases List.eq_nil_or_concat as with rfl | ⟨i,a,rfl⟩
  ·exact absurd rfl h4
  ·rw [List.concat_eq_append,aBr]
   obtain ⟨b,x,v⟩:=a
   simp [aB7,srcA,Arg.setVal,Arg.src,Arg.val,aNk,List.append_assoc]
 ·rename_i h3
  have ha:e.args=[]:=by
   by_cases h1:e.kind=3
   ·by_cases h2:e.args=[]
    ·exact h2
    ·exact absurd ⟨h1,h2⟩ h3
   ·exact h.args h1
  simp [aNk,ha,srcA]
theorem bHm {n:Node} {st:List El}:kt (addS n st)=kt st:=by
 cases st with
 | nil=>rfl
 | cons e r=>simp only [addS,kt,List.map_cons,El.add]; split <;> rfl
theorem bDq {l:List Node}:∀ {st:List El},kt (aCj l st)=kt st:=by
 induction l with
 | nil=>intro st; rfl
 | cons n r ih=>intro st; rw [aBy,ih,bHm]
theorem aRu:∀ (k:Nat) {st:List El},kt (flatN k st)=(kt st).drop k
 | 0,st=>by simp [flatN]
 | k+1,st=>by
   have h1:kt (flat1 st)=(kt st).drop 1:=by
    cases st with
    | nil=>rfl
    | cons e r=>have:=bDq (l:=e.pieces) (st:=r); simpa [flat1,kt] using this
   rw [flatN,aRu k,h1,List.drop_drop,Nat.add_comm]
theorem aPd {n:Node} {st:List El} (h:Okk st) (hn:n.J):Okk (addS n st):=by
 cases st with
 | nil=>exact h
 | cons e r =>
   intro x hx
   rcases List.mem_cons.1 hx with rfl | hx
   ·exact bGn (h e (by simp)) hn
   ·exact h x (by simp [hx])
theorem aRn {n:Node} {st:List El} (h:Okk st) (hne:st≠[]):aBc (addS n st)=aBc st++n.src:=by
 cases st with
 | nil=>exact absurd rfl hne
 | cons e r=>simp [addS,aBc,bEm (h e (by simp)),List.append_assoc]
theorem aR6 {l:List Node}:∀ {st:List El},Okk st→(∀ n,n∈l→n.J)→Okk (aCj l st):=by
 induction l with
 | nil=>intro st h _; exact h
 | cons n r ih=>intro st h hn; rw [aBy]; exact ih (aPd h (hn n (by simp))) fun x hx=>hn x (by simp [hx])
theorem aNw {l:List Node}:∀ {st:List El},Okk st→(∀ n,n∈l→n.J)→st≠[]→aBc (aCj l st)=aBc st++srcs l:=by
 induction l with
 | nil=>intro st h _ _; simp [aIq,srcs]
 | cons n r ih =>
   intro st h hn hne
   rw [aBy,ih (aPd h (hn n (by simp))) (fun x hx=>hn x (by simp [hx])) (aF6 hne),aRn h hne]
   simp [srcs,List.append_assoc]
theorem aRc {e:El} (h:e.jk):∀ n,n∈e.pieces→n.J:=by
 intro n hn
 unfold El.pieces at hn
 rcases List.mem_cons.1 hn with rfl | hn
 ·exact tx_J _
 rcases List.mem_append.1 hn with hn | hn
 ·exact h.list.mem n hn
 ·obtain ⟨a,ha,hn⟩:=List.mem_flatMap.1 hn
  have hj:=h.argJ a ha
  obtain ⟨b,x,v⟩:=a
  simp only [Arg.pieces] at hn
  rcases List.mem_cons.1 hn with rfl | hn
  ·exact tx_J _
  rcases List.mem_append.1 hn with hn | hn
  ·split at hn
   ·rcases List.mem_append.1 hn with hn | hn
    ·exact hj.1.mem n hn
    ·simp at hn; subst hn; exact tx_J _
   ·simp at hn
  ·exact hj.2.mem n hn
theorem aPe (e:El):srcs e.pieces=e.src:=by
 have:∀ l:List Arg,srcs (l.flatMap Arg.pieces)=srcA l:=by
  intro l
  induction l with
  | nil=>simp [srcs,srcA]
  | cons a r ih =>
    obtain ⟨b,x,v⟩:=a
    simp only [List.flatMap_cons,aBi,ih,srcA,Arg.pieces,srcs,aN9,Arg.src]
    cases b <;> simp [aBi,srcs,aN9]
 simp [El.pieces,El.src,srcs,aN9,aBi,this]
theorem aRa {st:List El} (h:Okk st):Okk (flat1 st):=by
 cases st with
 | nil=>exact h
 | cons e r=>exact aR6 (fun x hx=>h x (by simp [hx])) (aRc (h e (by simp)))
theorem aXy {e:El} {r:List El} (h:Okk (e::r)) (hr:r≠[]):aBc (flat1 (e::r))=aBc (e::r):=by
 simp only [flat1]
 rw [aNw (fun x hx=>h x (by simp [hx])) (aRc (h e (by simp))) hr,aPe]
 rfl
theorem aLs:∀ (k:Nat) {st:List El},Okk st→Okk (flatN k st)
 | 0,st,h=>h
 | k+1,st,h=>by rw [flatN]; exact aLs k (aRa h)
theorem aJl:∀ (k:Nat) {st:List El},Okk st→k<st.length→aBc (flatN k st)=aBc st
 | 0,st,_,_=>rfl
 | k+1,st,h,hk=>by
   cases st with
   | nil=>simp at hk
   | cons e r =>
     simp only [List.length_cons] at hk
     rw [flatN,aJl k (aRa h) (by rw [aFc]; simp; omega),aXy h (by intro e2; subst e2; simp at hk)]
end Go.Ab
namespace Go.Ab
structure Sv (st:List El):Prop where
 inv:SInv st
 ok:Okk st
theorem Sv.ne {st:List El} (h:Sv st):st≠[]:=h.inv.ne
theorem Sv.add {st:List El} (h:Sv st) {n:Node} (hn:n.J):Sv (addS n st)∧aBc (addS n st)=aBc st++n.src :=
 ⟨⟨h.inv.same bBv,aPd h.ok hn⟩,aRn h.ok h.ne⟩
theorem Sv.txt {st:List El} (h:Sv st) (q:List UInt8):Sv (addS (tx q) st)∧aBc (addS (tx q) st)=aBc st++q:=by
 have:=h.add (tx_J q)
 rwa [aN9] at this
theorem Sv.adds {st:List El} (h:Sv st) {l:List Node} (hn:∀ n,n∈l→n.J):Sv (aCj l st)∧aBc (aCj l st)=aBc st++srcs l :=
 ⟨⟨h.inv.same aUt,aR6 h.ok hn⟩,aNw h.ok hn h.ne⟩
theorem Sv.open_ {st:List El} (h:Sv st) {e:El} {s:List UInt8} (h1:e.list=[]) (h2:e.args=[]) (hk:e.kind=3→2≤e.count) (hs:e.head=s) :
 Sv (aOg e s st)∧aBc (aOg e s st)=aBc st++s:=by
 unfold aOg
 split
 ·exact h.txt s
 ·refine ⟨⟨h.inv.push (q:=(e.kind,e.count)) rfl hk,fun x hx=>?_⟩,?_⟩
  ·rcases List.mem_cons.1 hx with rfl | hx
   ·exact ⟨fun _=>h2,by rw [h1]; exact Jn.nil,by rw [h2]; simp⟩
   ·exact h.ok x hx
  ·simp [aBc,El.src,h1,h2,srcs,srcA,hs]
theorem bE5 {k:Nat} (h1:1≤k) (h2:k≤3):aB3 tagO (tagO k)=k:=by
 have:k=1∨k=2∨k=3:=by omega
 rcases this with rfl | rfl | rfl <;> simp [aB3,tagO,aAo]
theorem bEn {k:Nat} (h1:1≤k) (h2:k≤3):aB3 tagC (tagC k)=k:=by
 have:k=1∨k=2∨k=3:=by omega
 rcases this with rfl | rfl | rfl <;> simp [aB3,tagC,aAo]
theorem Sv.bar {st:List El} (h:Sv st):Sv (barF st)∧aBc (barF st)=aBc st++[124]:=by
 cases st with
 | nil=>exact absurd rfl h.ne
 | cons e r =>
   simp only [barF]
   split
   ·rename_i hk
    have he:=h.ok e (by simp)
    refine ⟨⟨h.inv.same rfl,fun x hx=>?_⟩,?_⟩
    ·rcases List.mem_cons.1 hx with rfl | hx
     ·refine ⟨fun hn=>absurd hk hn,he.list,fun a ha=>?_⟩
      rcases List.mem_append.1 ha with ha | ha
      ·exact he.argJ a ha
      ·simp at ha; subst ha; exact ⟨Jn.nil,Jn.nil⟩
     ·exact h.ok x (by simp [hx])
    ·simp [aBc,El.src,El.head,aB7,srcA,Arg.src,srcs,hk,List.append_assoc]
   ·exact h.txt [124]
theorem Sv.eq {st:List El} (h:Sv st):Sv (eqF st)∧aBc (eqF st)=aBc st++[61]:=by
 cases st with
 | nil=>exact absurd rfl h.ne
 | cons e r =>
   simp only [eqF]
   split
   ·rename_i hk
    obtain ⟨hk,hl⟩:=hk
    have he:=h.ok e (by simp)
    have hj:=he.argJ
    have key:(∀ a,a∈aEy (fun a=>Arg.mk true a.val []) e.args→Jn a.nm∧Jn a.val)∧srcA (aEy (fun a=>Arg.mk true a.val []) e.args)=srcA e.args++[61]:=by
     generalize e.args=as at hl hj ⊢
     rcases List.eq_nil_or_concat as with rfl | ⟨i,a,rfl⟩
     ·simp [aE8] at hl
     ·rw [List.concat_eq_append] at hl hj ⊢
      rw [aJ8] at hl
      rw [aBr]
      obtain ⟨b,x,v⟩:=a
      simp only [Arg.named] at hl
      subst hl
      constructor
      ·intro c hc
       rcases List.mem_append.1 hc with hc | hc
       ·exact hj c (by simp [hc])
       ·simp only [List.mem_singleton] at hc
        subst hc
        exact ⟨(hj (.mk false x v) (by simp)).2,Jn.nil⟩
      ·simp [aB7,srcA,Arg.src,Arg.val,srcs]
    refine ⟨⟨h.inv.same rfl,fun x hx=>?_⟩,?_⟩
    ·rcases List.mem_cons.1 hx with rfl | hx
     ·exact ⟨fun hn=>absurd hk hn,he.list,key.1⟩
     ·exact h.ok x (by simp [hx])
    ·simp only [aBc,El.src,key.2]
     simp [El.head,hk,List.append_assoc]
   ·exact h.txt [61]
theorem Sv.link {st:List El} (h:Sv st):Sv (aOn st)∧aBc (aOn st)=aBc st++[93,93]:=by
 cases st with
 | nil=>exact absurd rfl h.ne
 | cons e r =>
   simp only [aOn]
   split
   ·rename_i hk
    have he:=h.ok e (by simp)
    have hr:Sv r:=⟨h.inv.drop (k:=1) rfl (by have:=h.inv.kind1 hk; cases r with | nil=>exact absurd rfl this | cons a b=>simp),fun x hx=>h.ok x (by simp [hx])⟩
    have hJ:∀ n,n∈tx [91,91]::(e.list++[tx [93,93]])→n.J:=by
     intro n hn
     simp only [List.mem_cons,List.mem_append,List.mem_singleton,List.not_mem_nil,or_false] at hn
     rcases hn with rfl | hn | rfl
     ·exact tx_J _
     ·exact he.list.mem n hn
     ·exact tx_J _
    obtain ⟨h1,h2⟩:=hr.adds hJ
    refine ⟨h1,h2.trans ?_⟩
    have ha:=he.args (by omega)
    simp [aBc,El.src,El.head,hk,ha,srcA,srcs,aBi,aN9,List.append_assoc]
   ·exact h.txt [93,93]
theorem Sv.flat {st:List El} (h:Sv st) {k:Nat} (hk:k+1<st.length):∃ e r,flatN k st=e::r∧e.jk∧Sv r∧aBc r++e.src=aBc st∧(kt st)[k]?=some (e.kind,e.tag,e.count):=by
 obtain ⟨e,r,h1,h2,h3⟩:=aK0 (k:=k) (els:=st) (by omega)
 have hok:=aLs k h.ok
 have hsr:=aJl k h.ok (by omega)
 rw [h1] at hok hsr
 have hdr:kc r=(kc st).drop (k+1):=by
  have:=congrArg List.tail h2
  simpa [kc,List.tail_drop] using this
 refine ⟨e,r,h1,hok e (by simp),⟨h.inv.drop hdr hk,fun x hx=>hok x (by simp [hx])⟩,hsr,?_⟩
 have h4:=aRu k (st:=st)
 rw [h1] at h4
 have h5:=congrArg (·[0]?) h4
 simp only [List.getElem?_drop,kt,List.map_cons,List.getElem?_cons_zero] at h5
 simpa [kt] using h5.symm
theorem aMq (t:Nat):∀ {st:List El} {k:Nat},aDc t st=some k→∃ c,(kt st)[k]?=some (2,t,c)
 | [],k,h=>by simp [aDc] at h
 | [_],k,h=>by simp [aDc] at h
 | e::b::r,k,h=>by
   simp only [aDc] at h
   split at h
   ·rename_i h2
    cases h
    exact ⟨e.count,by simp [kt,h2.1,h2.2]⟩
   ·cases h3:aDc t (b::r) with
    | none=>simp [h3] at h
    | some j =>
      simp [h3] at h
      subst h
      obtain ⟨c,hc⟩:=aMq t h3
      exact ⟨c,by simpa [kt] using hc⟩
theorem aI5:∀ {st:List El} {k:Nat},aBk st=some k→∃ t c,(kt st)[k]?=some (3,t,c)
 | [],k,h=>by simp [aBk] at h
 | [_],k,h=>by simp [aBk] at h
 | e::b::r,k,h=>by
   simp only [aBk] at h
   split at h
   ·simp at h
   ·split at h
    ·rename_i h2
     cases h
     exact ⟨e.tag,e.count,by simp [kt,h2]⟩
    ·cases h3:aBk (b::r) with
     | none=>simp [h3] at h
     | some j =>
       simp [h3] at h
       subst h
       obtain ⟨t,c,hc⟩:=aI5 h3
       exact ⟨t,c,by simpa [kt] using hc⟩
theorem Sv.tag {st:List El} (h:Sv st) {t:Nat} (h1:1≤t) (h3:t≤3):Sv (tagF t (tagC t) st)∧aBc (tagF t (tagC t) st)=aBc st++tagC t:=by
 unfold tagF
 cases hb:aDc t st with
 | none=>exact h.txt _
 | some k =>
   obtain ⟨e,r,g1,g2,g3,g4,g5⟩:=h.flat (aU8 hb)
   obtain ⟨c,hc⟩:=aMq t hb
   rw [g5] at hc
   simp only [Option.some.injEq,Prod.mk.injEq] at hc
   obtain ⟨hk,ht,-⟩:=hc
   simp only [g1]
   obtain ⟨k1,k2⟩:=g3.add (n:=.mk 6 t [] e.list []) (mk_J g2.list (by simp))
   refine ⟨k1,k2.trans ?_⟩
   rw [← g4]
   have ha:=g2.args (by omega)
   have e1:(1:Int)≤(t:Nat):=by omega
   have e2:((t:Nat):Int)≤3:=by omega
   simp [Node.src,El.src,El.head,hk,ht,ha,srcA,tagO,tagC,e1,e2,List.append_assoc]
theorem aRx {c:Nat} {e:El}:(useN c e).src=List.replicate (useK c e.count) 123++(srcs e.list++srcA e.args)++List.replicate (useK c e.count) 125:=by
 unfold useN
 have:useK c e.count=2∨useK c e.count=3:=by unfold useK; split <;> simp
 rcases this with h | h <;> simp [Node.src,h,List.replicate,List.append_assoc]
theorem aWf {a b:Nat} (h:a≤b) (c:UInt8):List.replicate b c=List.replicate (b-a) c++List.replicate a c:=by
 rw [List.replicate_append_replicate]; congr 1; omega
theorem aK3 {a b:Nat} (h:a≤b) (c:UInt8):List.replicate b c=List.replicate a c++List.replicate (b-a) c:=by
 rw [List.replicate_append_replicate]; congr 1; omega
theorem Sv.close:∀ (n c:Nat) {st:List El},Sv st→Sv (aKt n c st)∧aBc (aKt n c st)=aBc st++List.replicate c 125
 | 0,c,st,h=>h.txt _
 | n+1,c,st,h=>by
   rw [aKt]
   split
   ·rename_i h2
    cases hb:aBk st with
    | none=>exact h.txt _
    | some k =>
      obtain ⟨e,r,g1,g2,g3,g4,g5⟩:=h.flat (aQd hb)
      obtain ⟨t,c',hc⟩:=aI5 hb
      have hcn:=h.inv.cn
      have hmem:(e.kind,e.count)∈kc st:=by
       obtain ⟨a,b⟩:=List.getElem?_eq_some_iff.1 g5
       have:(e.kind,e.tag,e.count)∈kt st:=List.mem_of_getElem? g5
       simp only [kt,List.mem_map] at this
       obtain ⟨x,hx,hx2⟩:=this
       simp only [Prod.mk.injEq] at hx2
       simp only [kc,List.mem_map]
       exact ⟨x,hx,by rw [hx2.1,hx2.2.2]⟩
      rw [g5] at hc
      simp only [Option.some.injEq,Prod.mk.injEq] at hc
      obtain ⟨hk,-,-⟩:=hc
      have h2c:=hcn _ hmem hk
      simp only at h2c
      have hu:2≤useK c e.count∧useK c e.count≤c∧useK c e.count≤e.count:=by unfold useK; split <;> omega
      have hJ:(useN c e).J:=mk_J g2.list g2.argJ
      have hsrc:e.src=List.replicate (e.count-useK c e.count) 123++(List.replicate (useK c e.count) 123++(srcs e.list++srcA e.args)):=by
       rw [El.src,El.head,if_neg (by omega),if_neg (by omega),if_pos hk,aWf hu.2.2,List.append_assoc]
      simp only [g1]
      split
      ·rename_i h3
       have hsv:Sv ({ e with count:=e.count-useK c e.count,list:=[useN c e],args:=[] }::r):=by
        refine ⟨g3.inv.push (q:=(e.kind,e.count-useK c e.count)) rfl fun _=>h3,fun x hx=>?_⟩
        rcases List.mem_cons.1 hx with rfl | hx
        ·refine ⟨fun _=>rfl,?_,by simp⟩
         have h0:=Jn.nil.addN hJ
         have:addN (useN c e) []=[useN c e]:=by
          unfold addN
          rw [if_neg]
          ·rfl
          ·unfold useN; simp only [Node.kind]; split <;> decide
         rwa [this] at h0
        ·exact g3.ok x hx
       obtain ⟨k1,k2⟩:=Sv.close n (c-useK c e.count) hsv
       refine ⟨k1,k2.trans ?_⟩
       rw [← g4,aK3 hu.2.1 125,hsrc]
       simp [aBc,El.src,El.head,hk,srcs,srcA,aRx,List.append_assoc]
      ·have hsv:Sv (if e.count-useK c e.count=1 then addS (tx [123]) r else r)∧aBc (if e.count-useK c e.count=1 then addS (tx [123]) r else r)=aBc r++List.replicate (e.count-useK c e.count) 123:=by
        split
        ·rename_i h1; rw [h1]; exact g3.txt [123]
        ·have:e.count-useK c e.count=0:=by omega
         rw [this]; exact ⟨g3,by simp⟩
       obtain ⟨j1,j2⟩:=hsv.1.add hJ
       obtain ⟨k1,k2⟩:=Sv.close n (c-useK c e.count) j1
       refine ⟨k1,k2.trans ?_⟩
       rw [j2,hsv.2,← g4,aK3 hu.2.1 125,hsrc,aRx]
       simp [List.append_assoc]
   ·exact h.txt _
theorem Sv.take {s:List UInt8} {t:Tok} {st:List El} (hg:t.good s) (h:Sv st):Sv (aNi s t st)∧aBc (aNi s t st)=aBc st++t.text s:=by
 have hl:(t.text s).length=t.to-t.fr:=Tok.text_length hg.le
 have hx:=hg.txt
 have he:=Tok.text_eq (s:=s) (t:=t)
 unfold aNi
 split
 ·have:=h.add (n:=.mk 2 0 (t.text s) [] []) (mk_J Jn.nil (by simp))
  simpa [Node.src] using this
 split
 ·rename_i h9 h10
  have hf:=(hx.resolve_left (by omega)).wiki h10
  simp only at hf
  have key:aF0++((t.text s).take ((t.text s).length-9)).drop 8++aF7=t.text s:=by
   obtain ⟨w1,w2,w3⟩:=hf
   have e1:(t.text s).take 8=aF0:=by
    rw [List.isPrefixOf_iff_prefix] at w2
    obtain ⟨z,hz⟩:=w2
    rw [he,← hz,List.take_take,Nat.min_eq_left (by omega),List.take_append_of_le_length (by decide)]
    rfl
   have e2:(t.text s).drop ((t.text s).length-9)=aF7:=by
    rw [List.isPrefixOf_iff_prefix] at w3
    obtain ⟨z,hz⟩:=w3
    rw [hl,he,List.drop_take,← hz,List.take_append_of_le_length (by show _≤9; omega)]
    have:t.to-t.fr-(t.to-t.fr-9)=9:=by omega
    rw [this]; rfl
   have e3:((t.text s).take ((t.text s).length-9))=aF0++((t.text s).take ((t.text s).length-9)).drop 8:=by
    have:=(List.take_append_drop 8 ((t.text s).take ((t.text s).length-9))).symm
    rw [List.take_take,Nat.min_eq_left (by omega),e1] at this
    exact this
   rw [← e3]
   have:=List.take_append_drop ((t.text s).length-9) (t.text s)
   rw [e2] at this
   exact this
  have:=h.add (n:=.mk 3 0 (((t.text s).take ((t.text s).length-9)).drop 8) [] []) (mk_J Jn.nil (by simp))
  have e0:(Node.mk 3 0 (((t.text s).take ((t.text s).length-9)).drop 8) [] []).src=t.text s:=by
   rw [← key]; simp [Node.src,aF0,aF7,hl]
  rwa [e0] at this
 split
 ·rename_i h3
  have hf:=(hx.resolve_left (by omega)).open_ h3
  simp only at hf
  have ht:t.text s=List.replicate (t.to-t.fr) 123:=by rw [he]; exact hf.2
  refine h.open_ rfl rfl (fun _=>by show 2≤(t.text s).length; omega) ?_
  simp only [El.head]
  rw [hl]; simp [ht]
 split
 ·rename_i h5
  have hf:=(hx.resolve_left (by omega)).link h5
  simp only at hf
  exact h.open_ rfl rfl (fun e=>by simp at e) (by rw [he,hf]; rfl)
 split
 ·rename_i h11
  obtain ⟨k,k1,k2,k3⟩:=hg.tagO h11
  refine h.open_ rfl rfl (fun e=>by simp at e) ?_
  have:t.tag s=k:=by rw [Tok.tag,if_pos h11,k3]; exact bE5 k1 k2
  simp [El.head,this,k3]
 split
 ·rename_i h7
  have hf:=(hx.resolve_left (by omega)).bar h7
  simp only at hf
  rw [he,hf]
  exact h.bar
 split
 ·rename_i h8
  have hf:=(hx.resolve_left (by omega)).eq h8
  simp only at hf
  rw [he,hf]
  exact h.eq
 split
 ·rename_i h6
  have hf:=(hx.resolve_left (by omega)).linkC h6
  simp only at hf
  rw [he,hf]
  exact h.link
 split
 ·rename_i h12
  obtain ⟨k,k1,k2,k3⟩:=hg.tagC h12
  have:t.tag s=k:=by rw [Tok.tag,if_neg (by omega),if_pos h12,k3]; exact bEn k1 k2
  rw [this,k3]
  exact h.tag k1 k2
 split
 ·rename_i h4
  have hf:=(hx.resolve_left (by omega)).close h4
  simp only at hf
  have ht:t.text s=List.replicate (t.to-t.fr) 125:=by rw [he]; exact hf.2
  have:=Sv.close (t.text s).length (t.text s).length h
  rw [hl] at this ⊢
  rwa [ht]
 ·exact h.txt _
theorem Sv.run {s:List UInt8}:∀ (l:List Tok) {st:List El},(∀ t,t∈l→t.good s)→Sv st→Sv (runF s l st)∧aBc (runF s l st)=aBc st++l.flatMap (Tok.text s)
 | [],st,_,h=>⟨h,by simp [runF]⟩
 | t::r,st,hg,h=>by
   obtain ⟨h1,h2⟩:=Sv.take (hg t (by simp)) h
   obtain ⟨g1,g2⟩:=Sv.run r (fun x hx=>hg x (by simp [hx])) h1
   refine ⟨g1,?_⟩
   have e:runF s (t::r) st=runF s r (aNi s t st):=rfl
   rw [e,g2,h2]
   simp [List.append_assoc]
theorem aJs (s:List UInt8):∀ (n t i:Nat),t≤i→i≤s.length→s.length<n+i→(aMa s n t i).flatMap (Tok.text s)=s.drop t
 | 0,t,i,h1,h2,h3=>by omega
 | n+1,t,i,h1,h2,h3=>by
   rw [aMa]
   split
   ·rename_i hi
    split
    ·exact aJs s n t (i+1) (by omega) (by omega) (by omega)
    ·rename_i hf
     have fs:=aKw hf
     have hle:=fs.le
     have hpos:=fs.pos
     rw [List.length_drop] at hle
     have ih:=aJs s n (i+(aDo (s.drop i)).2) (i+(aDo (s.drop i)).2) (Nat.le_refl _) (by omega) (by omega)
     rw [List.flatMap_append,List.flatMap_cons,ih]
     have e1:(if t<i then [(⟨1,t,i⟩:Tok)] else []).flatMap (Tok.text s)=(s.drop t).take (i-t):=by
      split
      ·simp [Tok.text_eq]
      ·have:i-t=0:=by omega
       simp [this]
     rw [e1,Tok.text_eq]
     simp only
     have e2:i+(aDo (s.drop i)).2-i=(aDo (s.drop i)).2:=by omega
     rw [e2,← List.drop_drop,List.take_append_drop]
     have e3:s.drop i=(s.drop t).drop (i-t):=by rw [List.drop_drop]; congr 1; omega
     rw [e3,List.take_append_drop]
   ·rename_i hi
    split
    ·have:(s.drop t).take (s.length-t)=s.drop t:=List.take_of_length_le (by simp)
     simp [Tok.text_eq,this]
    ·have:s.drop t=[]:=List.drop_eq_nil_iff.2 (by omega)
     simp [this]
theorem bEa:Sv [root]:=⟨⟨by simp [Cn,kc,root],[],rfl⟩,fun e he=>by
 simp at he; subst he
 exact ⟨fun _=>rfl,Jn.nil,by simp [root]⟩⟩
theorem bH3 (s:List UInt8):Sv (runF s (scan s) [root])∧aBc (runF s (scan s) [root])=s:=by
 obtain ⟨h1,h2⟩:=Sv.run (scan s) (aUw s).1 bEa
 refine ⟨h1,h2.trans ?_⟩
 have:=aJs s (s.length+1) 0 0 (Nat.le_refl _) (Nat.zero_le _) (by omega)
 rw [scan,this]
 simp [aBc,El.src,El.head,root,srcs,srcA]
theorem bHw {st:List El} (h:Sv st):srcs (finF st)=aBc st∧Jn (finF st):=by
 obtain ⟨e,r,h1,h2,h3⟩:=aK0 (k:=st.length-1) (els:=st) (by have:=List.length_pos_iff.2 h.ne; omega)
 have hok:=aLs (st.length-1) h.ok
 have hpos:=List.length_pos_iff.2 h.ne
 have hsr:=aJl (st.length-1) h.ok (by omega)
 have hr:r=[]:=List.length_eq_zero_iff.1 (by omega)
 subst hr
 rw [h1] at hok hsr
 have hk:e.kind=0∧e.count=0:=by
  obtain ⟨a,ha⟩:=h.inv.root
  have hl:a.length=st.length-1:=by have:=congrArg List.length ha; simp [kc] at this; omega
  rw [ha,← hl,List.drop_left] at h2
  simpa [kc] using h2
 have he:=hok e (by simp)
 simp only [finF,h1]
 refine ⟨?_,he.list⟩
 rw [← hsr]
 simp [aBc,El.src,El.head,hk.1,he.args (by omega),srcA]
theorem aPl (s:List UInt8):srcs (aMo s)=s:=by
 obtain ⟨h1,h2⟩:=bH3 s
 rw [aMo,(bHw h1).1,h2]
end Go.Ab
