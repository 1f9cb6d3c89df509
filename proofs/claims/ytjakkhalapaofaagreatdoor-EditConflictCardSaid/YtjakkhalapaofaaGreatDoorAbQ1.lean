/- Several texts of one kind, merged. No condition. -/
import Derived.Test.YtjakkhalapaofaaGreatDoorAbP3
import Derived.Test.YtjakkhalapaofaaGreatDoorAbZ4
import Derived.Test.YtjakkhalapaofaaGreatDoorAbM1
import Derived.Test.YtjakkhalapaofaaGreatDoorAbR5
import Derived.Test.YtjakkhalapaofaaGreatDoorAbN1
set_option linter.unusedSimpArgs false
set_option linter.unusedVariables false
namespace Go.Ab
variable {P:Program} {F T:Nat→Nat}
def Lit (s:List UInt8):Prop:=∀ b,b∈s→b≠60∧b≠123∧b≠125∧b≠91∧b≠93∧b≠124
theorem Lit.drop {s:List UInt8} (h:Lit s) (i:Nat):Lit (s.drop i):=fun b hb=>h b (List.mem_of_mem_drop hb)
theorem aG0 {c:UInt8} {r:List UInt8} (h:c≠60∧c≠123∧c≠125∧c≠91∧c≠93∧c≠124):aBf (c::r)=if c=61 then (8,1) else if c=10 then (2,1) else (0,0):=by
 obtain ⟨h1,h2,h3,h4,h5,h6⟩:=h
 simp only [aBf,h1,h2,h3,h4,h5,h6,if_false]
theorem aFu {s:List UInt8} (hl:Lit s) (h:(aBf s).1≠0):((aBf s).1=8∨(aBf s).1=2)∧(aBf s).2=1∧1≤s.length:=by
 cases s with
 | nil=>simp [aBf] at h
 | cons c r =>
   rw [aG0 (hl c (by simp))] at h ⊢
   split at h
   ·rename_i e; rw [if_pos e]; simp
   ·rename_i e; rw [if_neg e]
    split at h
    ·rename_i e; rw [if_pos e]; simp
    ·exact absurd rfl h
theorem t67L (hf:Is67 P F T) (s:List UInt8) (hs:s.length≤8192) (hne:s≠[]) (hl:Lit s):PTr P (F 67) [.str s] (aVg (aBf s)):=by
 refine ptrC [] hf (by simp) rfl ?_
 obtain ⟨c,r,rfl⟩:∃ c r,s=c::r:=by cases s with | nil=>exact absurd rfl hne | cons c r=>exact ⟨c,r,rfl⟩
 have hc:=hl c (by simp)
 rw [aG0 hc]
 obtain ⟨h60,h123,h125,h91,h93,h124⟩:=hc
 simp only [c67,push_cast,seval,-Nat.reducePow]
 refine ⟨by omega,?_⟩
 refine aAk (fun h=>absurd (aM2 (b:=60) h) h60) (fun _=>?_)
 simp only [push_cast,seval,-Nat.reducePow]
 refine aAk (fun h=>absurd (aM2 (b:=123) h) h123) (fun _=>?_)
 simp only [push_cast,seval,-Nat.reducePow]
 refine aAk (fun h=>absurd (aM2 (b:=125) h) h125) (fun _=>?_)
 simp only [push_cast,seval,-Nat.reducePow]
 refine aAk (fun h=>absurd (aM2 (b:=91) h) h91) (fun _=>?_)
 simp only [push_cast,seval,-Nat.reducePow]
 refine aAk (fun h=>absurd (aM2 (b:=93) h) h93) (fun _=>?_)
 simp only [push_cast,seval,-Nat.reducePow]
 refine aAk (fun h=>absurd (aM2 (b:=124) h) h124) (fun _=>?_)
 simp only [push_cast,seval,-Nat.reducePow]
 by_cases h61:c=61
 ·subst h61
  refine aAk (fun h=>?_) (fun h=>absurd rfl h)
  simp only [push_cast,seval,-Nat.reducePow]
  simp [view,aVg]
 refine aAk (fun h=>absurd (aM2 (b:=61) h) h61) (fun _=>?_)
 simp only [push_cast,seval,-Nat.reducePow]
 by_cases h10:c=10
 ·subst h10
  refine aAk (fun h=>?_) (fun h=>absurd rfl h)
  simp only [push_cast,seval,-Nat.reducePow]
  simp [view,aVg]
 refine aAk (fun h=>absurd (aM2 (b:=10) h) h10) (fun _=>?_)
 simp only [push_cast,seval,-Nat.reducePow]
 simp [view,aVg,h61,h10]
theorem t56L (h56:Is56 P F T) (h67:Is67 P F T) (s:List UInt8) (hs:s.length≤8192) (hl:Lit s):PTr P (F 56) [.str s] (.tup [.lst 3 (tvs (scan s)),.int .i64 0]):=by
 refine ptrC [] h56 (by simp) (by simp [V.imm,V.imms,aGr]) ?_
 have hs':¬ (8192:Int)<((s.length:Nat):Int):=by omega
 simp only [c56,push_cast,seval,-Nat.reducePow,hs']
 refine aAg (fun m s1=>∃ a t i n id,scan s=a++aF0 s n t i∧m=s.length-i∧t≤i∧i≤s.length∧s.length-i<n∧a.length≤2*i∧s1.env 0=.str s∧s1.env 5=.int .i64 t∧s1.env 6=.int .i64 i∧s1.env 4=.own id 3 0 a.length∧s1.L id=some (.vec (T 8) 3 (tvs a))∧id<s1.nx) s.length ⟨[],0,0,s.length+1,183,?_⟩ fun m s1 hJ=>?_
 ·simp only [push_cast,seval,-Nat.reducePow,scan,Nat.sub_zero]
  exact ⟨by omega,rfl⟩
 ·obtain ⟨a,t,i,n,id,hsc,rfl,hti,hil,hn,hal,j0,j5,j6,j4,jL,hid⟩:=hJ
  obtain ⟨n,rfl⟩:∃ k,n=k+1:=⟨n-1,by omega⟩
  have tk:List.take a.length (tvs a)=tvs a:=List.take_of_length_le (by simp [aCy])
  have view_fin:∀ (L:Heap) (j:Nat) (b:List Tok),L j=some (.vec (T 8) 3 (tvs b))→view L 3 (.tup [.own j 3 0 b.length,.int .i64 0])=.tup [.lst 3 (tvs b),.int .i64 0]:=fun L j b h=>by
   have:=aH7 (sz:=3) h (aGr b)
   rw [aCy] at this
   simp only [view,List.map_cons,List.map_nil] at this ⊢
   rw [this]
  by_cases hi:i<s.length
  ·have hi':((i:Nat):Int)<((s.length:Nat):Int):=by omega
   simp only [push_cast,seval,-Nat.reducePow,j0,j5,j6,hi',List.take_length]
   refine ⟨by omega,?_⟩
   have hne:s.drop i≠[]:=by intro e; have:=congrArg List.length e; simp at this; omega
   refine aAa (t67L h67 (s.drop i) (by simp; omega) hne (hl.drop i)) (by simp only [push_cast,seval,-Nat.reducePow]) (by simp only [push_cast,seval,-Nat.reducePow,aVg]) ?_
   simp only [push_cast,seval,-Nat.reducePow,aVg]
   rw [aF0,if_pos hi] at hsc
   generalize hq:aBf (s.drop i)=q at *
   refine aAk (fun h0=>?_) (fun h0=>?_)
   ·have h0':q.1=0:=by omega
    rw [if_pos h0'] at hsc
    simp only [push_cast,seval,-Nat.reducePow,j0,j5,j6]
    refine ⟨by omega,s.length-(i+1),by omega,a,t,i+1,n,id,hsc,rfl,by omega,by omega,by omega,by omega,rfl,by simp,j4,jL,by omega⟩
   ·have h0':q.1≠0:=by omega
    rw [if_neg h0'] at hsc
    have fs:=aFu (s:=s.drop i) (hl.drop i) (by rw [hq]; exact h0')
    rw [hq] at fs
    have hpos:1≤q.2:=by omega
    have hle:q.2≤s.length-i:=by omega
    by_cases ht:t<i
    ·have ht':((t:Nat):Int)<((i:Nat):Int):=by omega
     rw [if_pos ht] at hsc
     have hb:tvs a++[.agg [.int .i64 1,.int .i64 t,.int .i64 i]]=tvs (a++[⟨1,t,i⟩]):=by rw [aEt]; rfl
     have hb2:tvs (a++[⟨1,t,i⟩])++[.agg [.int .i64 q.1,.int .i64 i,.int .i64 ((i:Int)+(q.2:Nat))]]=tvs (a++[⟨1,t,i⟩]++[⟨q.1,i,i+q.2⟩]):=by rw [aEt (a++_)]; rfl
     have tk2:List.take (a.length+1) (tvs (a++[⟨1,t,i⟩]))=tvs (a++[⟨1,t,i⟩]):=List.take_of_length_le (by simp [aCy])
     have x1:s1.nx+279≠id:=by omega
     simp only [push_cast,seval,-Nat.reducePow,j0,j4,j5,j6,jL,ht',tk,hb,hb2,tk2]
     refine ⟨by omega,by omega,by simp,by omega,by omega,s.length-(i+q.2),by omega,a++[⟨1,t,i⟩]++[⟨q.1,i,i+q.2⟩],i+q.2,i+q.2,n,s1.nx+349,by rw [hsc]; simp,rfl,by omega,by omega,by omega,by simp; omega,by simp,by simp,by simp,by simp only [aFf,if_true],by omega⟩
    ·have ht':¬ ((t:Nat):Int)<((i:Nat):Int):=by omega
     rw [if_neg ht,List.nil_append] at hsc
     have hb:tvs a++[.agg [.int .i64 q.1,.int .i64 i,.int .i64 ((i:Int)+(q.2:Nat))]]=tvs (a++[⟨q.1,i,i+q.2⟩]):=by rw [aEt]; rfl
     simp only [push_cast,seval,-Nat.reducePow,j0,j4,j5,j6,jL,ht',tk,hb]
     refine ⟨by omega,by omega,by omega,s.length-(i+q.2),by omega,a++[⟨q.1,i,i+q.2⟩],i+q.2,i+q.2,n,s1.nx+288,by rw [hsc]; simp,rfl,by omega,by omega,by omega,by simp; omega,by simp,by simp,by simp,by simp only [aFf,if_true],by omega⟩
  ·have hi':¬ ((i:Nat):Int)<((s.length:Nat):Int):=by omega
   rw [aF0,if_neg hi] at hsc
   by_cases ht:t<s.length
   ·have ht':((t:Nat):Int)<((s.length:Nat):Int):=by omega
    rw [if_pos ht] at hsc
    have hb:tvs a++[.agg [.int .i64 1,.int .i64 t,.int .i64 s.length]]=tvs (a++[⟨1,t,s.length⟩]):=by rw [aEt]; rfl
    simp only [push_cast,seval,-Nat.reducePow,j0,j4,j5,j6,jL,hi',ht',tk,hb]
    refine ⟨by omega,?_⟩
    rw [hsc]
    have:=view_fin (upd (upd s1.L id none) (s1.nx+181) (some (Blk.vec (T 8) 3 (tvs (a++[⟨1,t,s.length⟩]))))) (s1.nx+181) (a++[⟨1,t,s.length⟩]) (by simp only [aFf,if_true])
    simpa using this
   ·have ht':¬ ((t:Nat):Int)<((s.length:Nat):Int):=by omega
    rw [if_neg ht,List.append_nil] at hsc
    simp only [push_cast,seval,-Nat.reducePow,j0,j4,j5,j6,jL,hi',ht',tk]
    rw [hsc]
    exact view_fin _ _ _ jL
structure LTok (s:List UInt8) (t:Tok):Prop where
 kind:t.kind=1∨t.kind=2∨t.kind=8
 lt:t.fr<t.to
 le:t.to≤s.length
theorem aIc {s:List UInt8} (hl:Lit s):∀ (n t i:Nat),t≤i→i≤s.length→(∀ x,x∈aF0 s n t i→LTok s x)∧lenT (aF0 s n t i)≤s.length-t
 | 0,t,i,_,_=>by simp [aF0,lenT]
 | n+1,t,i,h1,h2=>by
   rw [aF0]
   split
   ·rename_i hi
    split
    ·obtain ⟨g1,g2⟩:=aIc hl n t (i+1) (by omega) (by omega)
     exact ⟨g1,g2⟩
    ·rename_i hf
     have fs:=aFu (hl.drop i) hf
     have hpos:1≤(aBf (s.drop i)).2:=by omega
     have hle:(aBf (s.drop i)).2≤s.length-i:=by omega
     have hk:(aBf (s.drop i)).1=1∨(aBf (s.drop i)).1=2∨(aBf (s.drop i)).1=8:=by omega
     obtain ⟨g1,g2⟩:=aIc hl n (i+(aBf (s.drop i)).2) (i+(aBf (s.drop i)).2) (Nat.le_refl _) (by omega)
     constructor
     ·intro x hx
      simp only [List.mem_append,List.mem_cons] at hx
      rcases hx with hx | rfl | hx
      ·split at hx
       ·simp only [List.mem_singleton] at hx
        subst hx
        exact ⟨.inl rfl,by assumption,by simp; omega⟩
       ·simp at hx
      ·exact ⟨hk,by simp; omega,by simp; omega⟩
      ·exact g1 x hx
     ·rw [aHd]
      have:lenT (if t<i then [⟨1,t,i⟩] else [])=i-t:=by
       split
       ·simp [lenT]
       ·simp [lenT]; omega
      rw [this]
      simp only [lenT]
      omega
   ·split
    ·rename_i hi ht
     constructor
     ·intro x hx
      simp only [List.mem_singleton] at hx
      subst hx
      exact ⟨.inl rfl,ht,Nat.le_refl _⟩
     ·simp [lenT]
    ·simp [lenT]
theorem aYa {s:List UInt8} {t:Tok} (h:LTok s t) (l:List Node):∃ y:List UInt8,y.length≤t.to-t.fr∧aC7 s t [⟨0,0,0,l,[]⟩]=addS (tx y) [⟨0,0,0,l,[]⟩]:=by
 have h1:=h.lt
 rcases h.kind with hk | hk | hk
 ·exact ⟨t.text s,by rw [Tok.text_length h.le]; exact Nat.le_refl _,by simp [aC7,hk]⟩
 ·exact ⟨t.text s,by rw [Tok.text_length h.le]; exact Nat.le_refl _,by simp [aC7,hk]⟩
 ·exact ⟨[61],by simp; omega,by simp [aC7,hk,eqF]⟩
theorem aN3 {s:List UInt8}:∀ (a:List Tok) (l:List Node),(∀ t,t∈a→LTok s t)→∃ l2,runF s a [⟨0,0,0,l,[]⟩]=[⟨0,0,0,l2,[]⟩]∧pot [⟨0,0,0,l2,[]⟩]≤pot [⟨0,0,0,l,[]⟩]+2*lenT a
 | [],l,_=>⟨l,rfl,by simp [lenT]⟩
 | t::r,l,h=>by
   have ht:=h t (by simp)
   obtain ⟨y,hy,he⟩:=aYa ht l
   have hp:=bE4 (tx y) [⟨0,0,0,l,[]⟩]
   have e:addS (tx y) [⟨0,0,0,l,[]⟩]=[⟨0,0,0,addN (tx y) l,[]⟩]:=by simp [addS,El.add]
   rw [e] at hp he
   obtain ⟨l2,h1,h2⟩:=aN3 r (addN (tx y) l) fun x hx=>h x (by simp [hx])
   refine ⟨l2,by rw [← h1,← he]; rfl,?_⟩
   have hb:(tx y).bulk=y.length+1:=by simp [tx,Node.bulk,aAv,aCh]
   have:=ht.lt
   simp only [lenT]
   omega
theorem t57L (h57:Is57 P F T) (h59:Is59 P F T) (h68:Is68 P F T) (h69:Is69 P F T) (h74:Is74 P F T) (h106:aVz P F T) {L:Heap} {nx:Nat} {f:List Nat} {p:Nat} {els:List El} (hs:Stk T false L nx f p els) (s:List UInt8) (t:Tok) (hsl:s.length≤8192) (hw:LTok s t) (hb:pot els≤2^27) (hne:els≠[]) :
 ECall P (F 57) [.ptr p 0,.str s,.agg t.vs] L nx (Did T L nx f p (aC7 s t els)):=by
 have htl:=Tok.text_length hw.le
 have hlt:=hw.lt
 have hle:=hw.le
 have hkd:=hw.kind
 refine aB1 [] h57 (by simp) ?_
 simp only [c57,push_cast,seval,-Nat.reducePow,Tok.vs]
 refine aAa (t68 h68 s t (by omega) hw.le hsl) (by simp only [push_cast,seval,-Nat.reducePow,Tok.vs]) (by simp only [push_cast,seval,-Nat.reducePow]) ?_
 generalize hx:t.text s=x at *
 have st2:∀ (M:Heap) (m:Nat),nx≤m→(∀ i,i<nx→M i=L i)→Stk T false M m f p els:=fun M m h1 h2=>hs.grow h1 h2
 simp only [push_cast,seval,-Nat.reducePow]
 have fin:∀ (M:Heap) (m:Nat) (els':List El) (r r':V) (L':Heap) (n1 n2:Nat),nx≤m→(∀ i,i<nx→M i=L i)→Did T M m f p els' r L' n1→aC7 s t els=els'→n1≤n2→nx≤n2∧Did T L nx f p (aC7 s t els) r' L' n2:=by
  rintro M m els' r r' L' n1 n2 h1 h2 ⟨f',k1,k2⟩ rfl h4
  have:=k2.le
  exact ⟨by omega,f',k1.grow h4 fun _ _=>rfl,(Stp.grow h1 h2).trans (k2.trans (Stp.grow h4 fun _ _=>rfl))⟩
 have hxl:x.length≤8192:=by omega
 have up2:∀ (a:Option Blk) (i:Nat),i<nx→upd L (nx+5) a i=L i:=fun a i hi=>fr1 hi
 refine aAk (fun h=>?_) (fun c1=>?_)
 ·have hk:t.kind=1:=by omega
  simp only [push_cast,seval,-Nat.reducePow]
  refine aAe (t69 h69 h59 h106 (st2 _ _ (by omega) (fun i hi=>fr1 hi)) x (by omega) hne) ?_
  intro r L' n1 h
  exact fin _ _ _ _ _ _ _ _ (by omega) (fun i hi=>fr1 hi) h (by simp [aC7,hk,hx]) (by omega)
 simp only [push_cast,seval,-Nat.reducePow]
 refine aAk (fun h=>?_) (fun c2=>?_)
 ·have hk:t.kind=2:=by omega
  simp only [push_cast,seval,-Nat.reducePow]
  refine aAe (t69 h69 h59 h106 (st2 _ _ (by omega) (fun i hi=>fr1 hi)) x (by omega) hne) ?_
  intro r L' n1 h
  exact fin _ _ _ _ _ _ _ _ (by omega) (fun i hi=>fr1 hi) h (by simp [aC7,hk,hx]) (by omega)
 simp only [push_cast,seval,-Nat.reducePow]
 refine aAk (fun h=>?_) (fun c3=>?_)
 ·exfalso; omega
 simp only [push_cast,seval,-Nat.reducePow]
 refine aAk (fun h=>?_) (fun c4=>?_)
 ·exfalso; omega
 simp only [push_cast,seval,-Nat.reducePow]
 refine aAk (fun h=>?_) (fun c5=>?_)
 ·exfalso; omega
 simp only [push_cast,seval,-Nat.reducePow]
 refine aAk (fun h=>?_) (fun c6=>?_)
 ·exfalso; omega
 simp only [push_cast,seval,-Nat.reducePow]
 refine aAk (fun h=>?_) (fun c7=>?_)
 ·exfalso; omega
 simp only [push_cast,seval,-Nat.reducePow]
 refine aAk (fun h=>?_) (fun c8=>?_)
 ·exfalso; omega
 simp only [push_cast,seval,-Nat.reducePow]
 refine aAk (fun h=>?_) (fun c9=>?_)
 ·have hk:t.kind=8:=by omega
  simp only [push_cast,seval,-Nat.reducePow]
  refine aAe (t74 h74 h69 h59 h106 (st2 _ _ (by omega) (fun i hi=>fr1 hi)) (by omega) hne) ?_
  intro r L' n1 h
  exact fin _ _ _ _ _ _ _ _ (by omega) (fun i hi=>fr1 hi) h (by simp [aC7,hk,hx]) (by omega)
 exfalso; omega
theorem aY8 (hf:Is36 P F T) (h56:Is56 P F T) (h67:Is67 P F T) (h57:Is57 P F T) (h59:Is59 P F T) (h68:Is68 P F T) (h69:Is69 P F T) (h74:Is74 P F T) (h106:aVz P F T) (s:List UInt8) (hs:s.length≤8192) (hlit:Lit s) :
 PTr P (F 36) [.str s] (.tup [ln 5 (vns (aBo s)),.int .i64 0]):=by
 obtain ⟨hw,hl⟩:=aIc hlit (s.length+1) 0 0 (Nat.le_refl _) (Nat.zero_le _)
 have hw:∀ t,t∈scan s→LTok s t:=hw
 have hl:lenT (scan s)≤s.length:=hl
 refine ptrC [] hf (by simp) (by simp [V.imm,V.imms,aDe,aBy]) ?_
 simp only [c36,push_cast,seval,-Nat.reducePow]
 refine aAa (t56L h56 h67 s hs hlit) (by simp only [push_cast,seval,-Nat.reducePow]) (by simp only [push_cast,seval,-Nat.reducePow]) ?_
 simp only [push_cast,seval,-Nat.reducePow]
 refine aAg (fun m s1=>∃ a r f p,scan s=a++r∧m=r.length∧s1.env 0=.str s∧s1.env 6=.ptr p 0∧s1.env 22=.lst 3 (tvs (a++r))∧s1.env 23=.int .i64 (a++r).length∧s1.env 24=.int .i64 a.length∧Stk T false s1.L s1.nx f p (runF s a [root])) (scan s).length ⟨[],scan s,[159,157,156],159,?_⟩ fun m s1 hJ=>?_
 ·simp only [push_cast,seval,-Nat.reducePow,bC9]
  refine ⟨157,[],[⟨root,156,none,none,none⟩],⟨rfl,rfl,rfl,rfl,?_,?_,by simp,?_,?_⟩⟩
  ·intro h hh
   simp only [List.mem_singleton] at hh
   subst hh
   exact ⟨rfl,fun i hi=>by simp at hi,fun i hi=>by simp at hi,fun i hi=>by simp at hi⟩
  ·intro h hh
   simp at hh
   subst hh
   exact ⟨fun _=>rfl,fun _=>rfl,fun _=>rfl⟩
  ·intro i hi
   simp at hi
   omega
  ·intro e he
   simp only [List.mem_singleton] at he
   subst he
   exact ⟨fun h=>by simp [root] at h,fun n hn=>by simp [root] at hn,fun a ha=>by simp [root] at ha⟩
 ·obtain ⟨a,r,f,p,ha,rfl,j0,j6,j22,j23,j24,hst⟩:=hJ
  have hwa:∀ t,t∈a→LTok s t:=fun t ht=>hw t (by rw [ha]; simp [ht])
  obtain ⟨nl,hrun,hpot⟩:=aN3 (s:=s) a [] hwa
  have hrun:runF s a [root]=[⟨0,0,0,nl,[]⟩]:=hrun
  have hpr:pot [⟨0,0,0,[],[]⟩]=30:=rfl
  rw [hpr] at hpot
  have hla:lenT a+lenT r≤8192:=by rw [ha,aHd] at hl; omega
  have lenle:∀ l:List Tok,(∀ t,t∈l→LTok s t)→l.length≤lenT l:=by
   intro l
   induction l with
   | nil=>intro _; simp
   | cons t l ih =>
     intro h
     have:=ih fun x hx=>h x (by simp [hx])
     have:=(h t (by simp)).lt
     simp only [lenT,List.length_cons]; omega
  have hal:=lenle a hwa
  cases r with
  | nil =>
    simp only [List.append_nil] at ha j22 j23
    simp only [push_cast,seval,-Nat.reducePow,j0,j6,j22,j23,j24]
    refine aAg (fun m s2=>m=0∧s2.env 6=.ptr p 0∧∃ f,Stk T false s2.L s2.nx f p [⟨0,0,0,nl,[]⟩]) 0 ?_ fun m s2 hJ=>?_
    ·rw [hrun] at hst
     simp only [push_cast,seval,-Nat.reducePow,j6]
     exact ⟨f,hst.grow (by omega) fun _ _=>rfl⟩
    ·obtain ⟨rfl,i6,f2,st2⟩:=hJ
     obtain ⟨sid,jk,h,t,hp,r9⟩:=st2.split (by simp)
     have hel:t.length=0:=by
      have h1:([⟨0,0,0,nl,[]⟩]:List El).length=t.length+1:=by rw [r9]; simp
      rw [List.length_singleton] at h1
      omega
     have hbx:=hp.box
     simp only [List.length_cons] at hbx
     simp only [push_cast,seval,-Nat.reducePow,i6,hbx]
     refine aAk (fun hc=>?_) (fun hc=>?_)
     ·exfalso; omega
     ·have ht:t=[]:=List.eq_nil_of_length_eq_zero hel
      subst ht
      have hels:[(⟨0,0,0,nl,[]⟩:El)]=[h.e]:=r9
      simp only [push_cast,seval,-Nat.reducePow,i6]
      refine aAe (t59 h59 (hp.grow (by omega)) (by simp)) ?_
      rintro _ L3 n3 ⟨rfl,rfl,hn3⟩
      have hat:=hp.at_ h (by simp)
      have hlv:h.live:=hp.live h (by simp)
      have hbe:=hat.box
      simp only [EH.cells] at hbe
      have hres:aBo s=h.e.list:=by
       simp only [aBo,ha,finF,hrun,hels,List.length_singleton,Nat.sub_self,aSf]
      simp only [push_cast,seval,-Nat.reducePow,i6,hbe]
      rw [hres]
      rcases aD1 h.li with hv | ⟨i,hv⟩
      ·have:=hlv.li hv
       simp [EH.lv,hv,lvO,this,vns,ln,view]
      ·obtain ⟨q1,q2⟩:=hat.li i hv
       have e1:h.lv=.own i 5 0 (vns h.e.list).length:=by simp [EH.lv,hv,lvO,aBl]
       have e2:vns h.e.list≠[]:=fun e=>q2 (by cases hl:h.e.list with | nil=>rfl | cons x r=>rw [hl] at e; simp [vns] at e)
       simp only [e1,view,List.map_cons,List.map_nil,bJ0 e2]
       have:=aH7 (sz:=5) q1 (aBy _)
       simp only [view] at this ⊢
       rw [this]
  | cons x r =>
    have hwx:LTok s x:=hw x (by rw [ha]; simp)
    simp only [lenT] at hla
    simp only [push_cast,seval,-Nat.reducePow,j0,j6,j22,j23,j24,Tok.vs]
    refine aAe (t57L h57 h59 h68 h69 h74 h106 (hst.grow (by omega) fun i hi=>(fr1 hi).trans (fr1 hi)) s x hs hwx (by rw [hrun]; omega) (by rw [hrun]; simp)) ?_
    rintro _ L3 n3 ⟨f3,k1,k2⟩
    simp only [push_cast,seval,-Nat.reducePow,j0,j6,j22,j23,j24]
    refine ⟨by omega,r.length,by omega,a++[x],r,f3,p,by rw [ha]; simp,rfl,rfl,by simp,by simp,by simp,?_⟩
    rw [aOq]
    exact k1.grow (by omega) fun _ _=>rfl
end Go.Ab
namespace Go.Ab
variable {P:Program} {F T:Nat→Nat}
def ptx (x:List UInt8):List Node:=if x=[] then [] else [tx x]
theorem bEy (x y:List UInt8):addN (tx y) (ptx x)=ptx (x++y):=by
 have e:∀ l,addN (tx y) l=if y=[] then l else aB6 l y:=fun l=>rfl
 rw [e]
 by_cases hy:y=[]
 ·subst hy; simp
 ·rw [if_neg hy]
  unfold ptx
  by_cases hx:x=[]
  ·subst hx; simp [aB6,hy,tx]
  ·simp [aB6,hx,tx]
theorem aNs {s:List UInt8} {a b:Nat} (h:a≤b) (hb:b≤s.length):s.take a++(s.take b).drop a=s.take b:=by
 have h1:(s.take b).take a=s.take a:=by rw [List.take_take,Nat.min_eq_left h]
 rw [← h1,List.take_append_drop]
theorem aI4 {s:List UInt8} {t:Tok} (hk:t.kind=1∨t.kind=2∨(t.kind=8∧t.text s=[61])) (x:List UInt8):aC7 s t [⟨0,0,0,ptx x,[]⟩]=[⟨0,0,0,ptx (x++t.text s),[]⟩]:=by
 have e:addS (tx (t.text s)) [⟨0,0,0,ptx x,[]⟩]=[⟨0,0,0,ptx (x++t.text s),[]⟩]:=by simp [addS,El.add,bEy]
 rw [← e]
 rcases hk with hk | hk | ⟨hk,h8⟩
 ·simp [aC7,hk]
 ·simp [aC7,hk]
 ·simp [aC7,hk,eqF,h8]
theorem bP1 {s:List UInt8} (hl:Lit s) {i:Nat} (h:(aBf (s.drop i)).1=8):Tok.text s ⟨8,i,i+1⟩=[61]:=by
 cases hd:s.drop i with
 | nil=>rw [hd] at h; simp [aBf] at h
 | cons c r =>
   have hc:=hl.drop i c (by rw [hd]; simp)
   rw [hd,aG0 hc] at h
   by_cases h61:c=61
   ·subst h61
    simp only [Tok.text]
    rw [List.drop_take,hd]
    simp
   ·rw [if_neg h61] at h
    split at h <;> simp at h
theorem aR0 {s:List UInt8} (hl:Lit s):∀ (n t i:Nat),t≤i→i≤s.length→s.length-i<n→runF s (aF0 s n t i) [⟨0,0,0,ptx (s.take t),[]⟩]=[⟨0,0,0,ptx s,[]⟩]
 | 0,t,i,_,_,h=>by omega
 | n+1,t,i,h1,h2,h3=>by
   rw [aF0]
   have e1:∀ a b:Nat,t≤a→Tok.text s ⟨1,t,a⟩=(s.take a).drop t:=fun _ _ _=>rfl
   by_cases hi:i<s.length
   ·rw [if_pos hi]
    by_cases h0:(aBf (s.drop i)).1=0
    ·rw [if_pos h0]
     exact aR0 hl n t (i+1) (by omega) (by omega) (by omega)
    ·rw [if_neg h0]
     obtain ⟨fk,fl,fp⟩:=aFu (hl.drop i) h0
     rw [fl]
     have ih:=aR0 hl n (i+1) (i+1) (Nat.le_refl _) (by omega) (by omega)
     have step:∀ st,runF s ((⟨(aBf (s.drop i)).1,i,i+1⟩:Tok)::aF0 s n (i+1) (i+1)) st=runF s (aF0 s n (i+1) (i+1)) (aC7 s ⟨(aBf (s.drop i)).1,i,i+1⟩ st):=fun st=>rfl
     have h8:(aBf (s.drop i)).1=8→Tok.text s ⟨(aBf (s.drop i)).1,i,i+1⟩=[61]:=fun h=>by rw [h]; exact bP1 hl h
     have hq:aC7 s ⟨(aBf (s.drop i)).1,i,i+1⟩ [⟨0,0,0,ptx (s.take i),[]⟩]=[⟨0,0,0,ptx (s.take (i+1)),[]⟩]:=by
      rw [aI4 (fk.elim (fun fk=>.inr (.inr ⟨fk,h8 fk⟩)) fun fk=>.inr (.inl fk))]
      simp only [Tok.text]
      rw [aNs (by omega) (by omega)]
     by_cases ht:t<i
     ·rw [if_pos ht]
      show runF s ((⟨(aBf (s.drop i)).1,i,i+1⟩:Tok)::aF0 s n (i+1) (i+1)) (aC7 s ⟨1,t,i⟩ [⟨0,0,0,ptx (s.take t),[]⟩])=_
      rw [aI4 (.inl rfl)]
      simp only [Tok.text]
      rw [aNs (by omega) (by omega),step,hq]
      exact ih
     ·have:t=i:=by omega
      subst this
      rw [if_neg ht,List.nil_append,step,hq]
      exact ih
   ·rw [if_neg hi]
    have hil:i=s.length:=by omega
    by_cases ht:t<s.length
    ·rw [if_pos ht]
     show aC7 s ⟨1,t,s.length⟩ [⟨0,0,0,ptx (s.take t),[]⟩]=_
     rw [aI4 (.inl rfl)]
     simp only [Tok.text]
     rw [aNs (by omega) (by omega),List.take_length]
    ·rw [if_neg ht,List.take_of_length_le (by omega)]
     rfl
theorem aIr {s:List UInt8} (hl:Lit s):aBo s=ptx s:=by
 have h:=aR0 hl (s.length+1) 0 0 (Nat.le_refl _) (Nat.zero_le _) (by omega)
 have h2:runF s (scan s) [root]=[⟨0,0,0,ptx s,[]⟩]:=h
 simp only [aBo,finF,h2,List.length_singleton,Nat.sub_self,aSf]
theorem aT1 {s:List UInt8} (hl:Lit s):aAv (aBo s)≤s.length+1:=by
 rw [aIr hl]
 unfold ptx
 split
 ·simp [aAv]
 ·simp [aAv,tx,Node.bulk,aCh]
theorem aJq {s:List UInt8} (hl:Lit s):srcs (aBo s)=s:=by
 rw [aIr hl]
 unfold ptx
 split
 ·rename_i h; subst h; simp [srcs]
 ·simp [srcs,tx,Node.src]
theorem bP2 (hf:bLz P F T) (S:StrC0 P F) (h137:bJd P F T) (s:List UInt8) (hs:s.length≤8192) (hlit:Lit s) (h136:PTr P (F 136) [.str s] (.tup [.lst 1 (bls (aAt (aBo s))),.int .i64 0])):PTr P (F 124) [.str s] (.tup [.lst 5 (secV (aC9 s)),.int .i64 0]):=by
 obtain ⟨p,hp⟩:∃ p,p=aAt (aBo s):=⟨_,rfl⟩
 have hpl:p.length=s.length:=by rw [hp,aFd,aJq hlit]
 have hsec:aC9 s=toF (rawF s p (s.length+1) 0):=by rw [aC9,hp]
 have hcnt:=aG1 s p (s.length+1) 0
 rw [← hp] at h136
 refine ptrC [] hf (by simp) (by simp [V.imm,V.imms,aD6]) ?_
 simp only [c124,push_cast,seval,-Nat.reducePow]
 refine aAa h136 (by simp only [push_cast,seval,-Nat.reducePow]) (by simp only [push_cast,seval,-Nat.reducePow,aHj]) ?_
 simp only [push_cast,seval,-Nat.reducePow]
 refine aAg (fun m s1=>∃ a i id,rawF s p (s.length+1) 0=a++rawF s p (s.length+1) i∧m=s.length-i∧i≤s.length∧a.length≤i∧s1.env 0=.str s∧s1.env 4=.lst 1 (bls p)∧s1.env 7=.int .i64 i∧s1.env 6=.own id 5 0 a.length∧s1.L id=some (.vec (T 14) 5 (secV a))∧id<s1.nx) s.length ⟨[],0,476,?_⟩ fun m s1 hJ=>?_
 ·simp only [push_cast,seval,-Nat.reducePow]
  exact ⟨by omega,rfl⟩
 ·obtain ⟨a,i,id,hra,rfl,hi,hal,j0,j4,j7,j6,jL,hid⟩:=hJ
  by_cases hlt:i<s.length
  ·have hlt':((i:Nat):Int)<((s.length:Nat):Int):=by omega
   have hle:=aD7 (s:=s) (i:=i) hi
   rw [aOs s p hlt] at hra
   have hib:=S.ib (s.drop i)
   rw [bB9,aTx hi] at hib
   have hsq:=aTe s p i
   have hEd:aBi s i=i+aCa (s.drop i):=rfl
   generalize aBi s i=E at *
   obtain ⟨N,hN⟩:∃ N,N=min (E+1) s.length:=⟨_,rfl⟩
   rw [← hN] at hra hsq
   simp only [push_cast,seval,-Nat.reducePow,j0,j4,j7,j6,jL,hlt',List.take_length]
   refine aAw (fun s2=>s2.env 0=.str s∧s2.env 4=.lst 1 (bls p)∧s2.env 7=.int .i64 i∧s2.env 6=.own id 5 0 a.length∧s2.L id=some (.vec (T 14) 5 (secV a))∧id<s2.nx∧s2.env 8=.int .i64 E∧s2.env 9=.int .i64 N) ?_ ?_
   ·simp only [push_cast,seval,-Nat.reducePow,j0,j4,j7,j6,jL,List.take_length]
    repeat refine And.intro (by omega) ?_
    by_cases hl:aCa (s.drop i)<s.length-i
    ·rw [if_pos hl] at hib
     have hl0:(0:Int)≤((aCa (s.drop i):Nat):Int):=by omega
     have e1:((i:Nat):Int)+((aCa (s.drop i):Nat):Int)=(E:Nat):=by omega
     have e2:((E:Nat):Int)+1=(N:Nat):=by omega
     refine aAa hib (by simp only [push_cast,seval,-Nat.reducePow]) (by simp only [push_cast,seval,-Nat.reducePow]) ?_
     simp only [push_cast,seval,-Nat.reducePow,j0,j4,j7,j6,jL,hl0,e1,e2]
     omega
    ·rw [if_neg hl] at hib
     have hle2:=aNp (s.drop i)
     rw [aTx hi] at hle2
     obtain rfl:E=s.length:=by omega
     obtain rfl:N=s.length:=by omega
     refine aAa hib (by simp only [push_cast,seval,-Nat.reducePow]) (by simp only [push_cast,seval,-Nat.reducePow]) ?_
     simp only [push_cast,seval,-Nat.reducePow,j0,j4,j7,j6,jL]
     omega
   ·rintro s2 ⟨k0,k4,k7,k6,kL,kid,k8,k9⟩
    simp only [push_cast,seval,-Nat.reducePow,k0,k4,k7,k6,kL,k8,k9]
    refine aAg (fun m s3=>∃ j,i≤j∧j≤E∧m=E-j∧s3.env 0=.str s∧s3.env 4=.lst 1 (bls p)∧s3.env 7=.int .i64 i∧s3.env 6=.own id 5 0 a.length∧s3.L id=some (.vec (T 14) 5 (secV a))∧id<s3.nx∧s3.env 8=.int .i64 (E)∧s3.env 9=.int .i64 N∧s3.env 12=.int .i64 j∧s3.env 11=.bool (allP p i j)) (E-i) ⟨i,?_⟩ fun m s3 hJ=>?_
    ·simp only [push_cast,seval,-Nat.reducePow,k0,k4,k7,k6,kL,k8,k9,aUw]
     omega
    ·obtain ⟨j,hij,hje,rfl,g0,g4,g7,g6,gL,gid,g8,g9,g12,g11⟩:=hJ
     by_cases hj:j<E
     ·have hj':((j:Nat):Int)<((E:Nat):Int):=by omega
      have hjp:j<p.length:=by omega
      have hat:=bFx p hjp
      have hjb:j<(bls p).length:=by rw [aIp]; exact hjp
      have hst:=aQq p hij hjp
      cases hb:allP p i j with
      | true =>
        rw [hb,Bool.true_and] at hst
        rw [hb] at g11
        simp only [push_cast,seval,-Nat.reducePow,g0,g4,g7,g6,gL,g8,g9,g12,g11,hj',hat]
        exact ⟨hjb,by omega,E-(j+1),by omega,j+1,by omega,by omega,rfl,by omega,by simp,by rw [hst]⟩
      | false =>
        rw [hb,Bool.false_and] at hst
        rw [hb] at g11
        simp only [push_cast,seval,-Nat.reducePow,g0,g4,g7,g6,gL,g8,g9,g12,g11,hj']
        exact ⟨by omega,E-(j+1),by omega,j+1,by omega,by omega,rfl,by omega,by simp,by rw [hst]⟩
     ·have hj':¬ ((j:Nat):Int)<((E:Nat):Int):=by omega
      obtain rfl:E=j:=by omega
      simp only [push_cast,seval,-Nat.reducePow,g0,g4,g7,g6,gL,g8,g9,g12,g11,hj']
      refine aAw (fun s4=>∃ id2,s4.env 0=.str s∧s4.env 4=.lst 1 (bls p)∧s4.env 9=.int .i64 N∧s4.env 6=.own id2 5 0 (a++aC1 s p i).length∧s4.L id2=some (.vec (T 14) 5 (secV (a++aC1 s p i)))∧id2<s4.nx) ?_ ?_
      ·have hcal:=t137 h137 S ((s.take E).drop i) (by rw [List.length_drop,List.length_take]; omega)
       have himm:(hdV ((s.take E).drop i)).imm=true:=by unfold hdV; split <;> rfl
       have htk:List.take a.length (secV a)=secV a:=List.take_of_length_le (by rw [aB9]; omega)
       have htl:((a.length:Nat):Int)=((secV a).length:Nat):=by rw [aB9]
       simp only [push_cast,seval,-Nat.reducePow,g0,g4,g7,g6,gL,g8,g9,g12,g11]
       repeat refine And.intro (by omega) ?_
       refine aAa hcal (by simp only [push_cast,seval,-Nat.reducePow]) himm ?_
       generalize (s.take E).drop i=ln at *
       simp only [hdV] at himm ⊢
       by_cases hbad:aD4 ln
       ·have hs0:aC1 s p i=[]:=by rw [hsq]; simp [hdOk,hbad]
        rw [if_pos hbad,hs0,List.append_nil]
        simp only [push_cast,seval,-Nat.reducePow,g0,g4,g7,g6,gL,g8,g9,g12,g11]
        exact ⟨id,rfl,gL,by omega⟩
       ·rw [if_neg hbad]
        by_cases hem:hdS ln=[]
        ·have hs0:aC1 s p i=[]:=by rw [hsq]; simp [hdOk,hbad,hem]
         rw [hs0,List.append_nil]
         simp only [push_cast,seval,-Nat.reducePow,g0,g4,g7,g6,gL,g8,g9,g12,g11,hem]
         exact ⟨id,rfl,gL,by omega⟩
        ·cases hall:allP p i E with
         | false =>
           have hs0:aC1 s p i=[]:=by rw [hsq]; simp [hdOk,hbad,hem,hall]
           rw [hs0,List.append_nil]
           rw [hall] at g11
           simp only [push_cast,seval,-Nat.reducePow,g0,g4,g7,g6,gL,g8,g9,g12,g11,hem]
           exact ⟨id,rfl,gL,by omega⟩
         | true =>
           have hs0:aC1 s p i=[⟨hdN ln,hdS ln,i,N,s.length⟩]:=by rw [hsq]; simp [hdOk,hbad,hem,hall]
           have hsn:=aQf a ⟨hdN ln,hdS ln,i,N,s.length⟩
           simp only [Sec.v] at hsn
           rw [hs0]
           rw [hall] at g11
           simp only [push_cast,seval,-Nat.reducePow,g0,g4,g7,g6,gL,g8,g9,g12,g11,hem,htk,hsn]
           exact ⟨by rw [aB9]; omega,by omega,s3.nx+439,by simp,aAf _ _ _,by omega⟩
      ·rintro s4 ⟨id2,m0,m4,m9,m6,mL,mid⟩
       simp only [push_cast,seval,-Nat.reducePow,m0,m4,m9,m6,mL]
       have hsl:(aC1 s p i).length≤1:=by rw [hsq]; split <;> simp
       exact ⟨s.length-N,by omega,a++aC1 s p i,N,id2,by rw [hra,List.append_assoc],rfl,by omega,by rw [List.length_append]; omega,rfl,rfl,mL,by omega⟩
  ·have hlt':¬ ((i:Nat):Int)<((s.length:Nat):Int):=by omega
   obtain rfl:i=s.length:=by omega
   rw [aGz s p _ (Nat.le_refl _),List.append_nil] at hra
   simp only [push_cast,seval,-Nat.reducePow,j0,j4,j7,j6,jL,hlt']
   refine aAg (fun m s2=>∃ d r id,toF a=d++toF r∧a.length=d.length+r.length∧m=r.length∧s2.env 85=.int .i64 a.length∧s2.env 86=.int .i64 d.length∧s2.env 6=.own id 5 0 a.length∧s2.L id=some (.vec (T 14) 5 (secV (d++r)))∧id<s2.nx) a.length ⟨[],a,id,?_⟩ fun m s2 hJ=>?_
   ·simp only [push_cast,seval,-Nat.reducePow,j0,j4,j7,j6,jL]
    omega
   ·obtain ⟨d,r,id,htf,hlen,rfl,k5,k6,k7,kL,kid⟩:=hJ
    cases r with
    | nil =>
      have hd:¬ ((d.length:Nat):Int)<((a.length:Nat):Int):=by simp at hlen; omega
      simp only [push_cast,seval,-Nat.reducePow,k5,k6,k7,kL,hd]
      rw [hsec,hra,htf]
      simp only [toF]
      exact aKw kL (aD6 _) (by rw [aB9,List.length_append,hlen])
    | cons x q =>
      have hd:((d.length:Nat):Int)<((a.length:Nat):Int):=by simp at hlen; omega
      simp only [List.length_cons] at hlen
      simp only [push_cast,seval,-Nat.reducePow,k5,k6,k7,kL,hd]
      repeat refine And.intro (by omega) ?_
      refine aAg (fun m s3=>∃ u v,q=u++v∧(∀ y,y∈u→x.lev<y.lev)∧m=v.length∧s3.env 85=.int .i64 a.length∧s3.env 86=.int .i64 d.length∧s3.env 16=.int .i64 d.length∧s3.env 17=.int .i64 (d.length+1+u.length:Nat)∧s3.env 6=.own id 5 0 a.length∧s3.L id=some (.vec (T 14) 5 (secV (d++x::q)))∧id<s3.nx) q.length ⟨[],q,?_⟩ fun m s3 hJ=>?_
      ·simp only [push_cast,seval,-Nat.reducePow,k5,k6,k7,kL]
       omega
      ·obtain ⟨u,v,rfl,hu,rfl,g5,g6,g16,g17,g7,gL,gid⟩:=hJ
       have hx:=aHe d x (u++v)
       generalize hK:d.length+1+u.length=K at *
       simp only [List.length_append] at hlen
       cases v with
       | nil =>
         have hk:¬ ((K:Nat):Int)<((a.length:Nat):Int):=by simp at hlen; omega
         simp only [push_cast,seval,-Nat.reducePow,g5,g6,g16,g17,g7,gL,hk]
         have htn:=aYm (x:=x) (q:=u) hu
         simp only [List.append_nil] at htf gL ⊢
         refine ⟨by omega,u.length,by omega,d++[x],u,id,?_,by simp; omega,rfl,by simp,rfl,by simpa using gL,by omega⟩
         rw [htf]; simp [toF,htn]
       | cons y v =>
         have hk:((K:Nat):Int)<((a.length:Nat):Int):=by simp at hlen; omega
         have hy:(secV (d++x::(u++y::v))).getD K .junk=y.v:=by
          have:=aHe (d++x::u) y v
          rw [show (d++x::u).length=K by simp; omega] at this
          simpa using this
         by_cases hyx:y.lev≤x.lev
         ·have hyx':((y.lev:Nat):Int)≤((x.lev:Nat):Int):=by omega
          simp only [push_cast,seval,-Nat.reducePow,g5,g6,g16,g17,g7,gL,hk,hx,hy,Sec.v,hyx']
          have hls:(secV (d++x::(u++y::v))).length=d.length+(u.length+(v.length+1)+1):=by rw [aB9]; simp
          have hse:=aTb d x (endS x y.fr) (u++y::v)
          have hts:=aQo (x:=x) (y:=y) (u:=u) (v:=v) hu hyx
          simp only [Sec.v,endS] at hse hts
          refine ⟨by omega,by omega,by omega,by omega,by omega,by omega,by omega,by omega,by omega,(u++y::v).length,Nat.lt_succ_self _,d++[toOf x (u++y::v)],u++y::v,id,?_,by simp at hlen ⊢; omega,rfl,by simp,rfl,?_,by omega⟩
          ·rw [htf]; simp [toF]
          ·rw [aAf,hse,hts]; simp
         ·have hyx':¬ ((y.lev:Nat):Int)≤((x.lev:Nat):Int):=by omega
          simp only [push_cast,seval,-Nat.reducePow,g5,g6,g16,g17,g7,gL,hk,hx,hy,Sec.v,hyx']
          have hls:(secV (d++x::(u++y::v))).length=d.length+(u.length+(v.length+1)+1):=by rw [aB9]; simp
          refine ⟨by omega,by omega,by omega,by omega,by omega,v.length,by omega,u++[y],v,by simp,?_,rfl,?_,by omega⟩
          ·intro z hz
           rw [List.mem_append,List.mem_singleton] at hz
           rcases hz with hz | rfl
           ·exact hu z hz
           ·omega
          ·simp; omega
theorem bBg (hf:bH7 P F T) (h2:∀ l:List Node,aAv l≤2^26→PTr P (F 2) [.lst 5 (encs l)] (.str (srcs l))) (s:List UInt8) (hp:PTr P (F 36) [.str s] (.tup [ln 5 (vns (aBo s)),.int .i64 0])) (hs:s.length≤8192) (hlit:Lit s) :
 PTr P (F 136) [.str s] (.tup [.lst 1 (bls (aAt (aBo s))),.int .i64 0]):=by
 have hb:=aT1 hlit
 have hr:=aJq hlit
 refine t136 hf h2 s (aBo s) (bL7 hp ?_) (by omega) (by omega) (by rw [hr]; omega) ?_
 ·simp only [V.le]
  refine ⟨_,rfl,?_⟩
  rw [aBh,aBh,aDk,and_true]
  exact ⟨aXl (aPz _),V.le_refl _⟩
 ·have:=aC6 (aBo s)
  omega
theorem aVy (hf:bJu P F T) (h3:∀ l:List Node,aAv l≤2^26→PTr P (F 3) [.lst 5 (encs l)] (.str (srcs l))) (s:List UInt8) (hs:s.length≤8192) (hlit:Lit s):PTr P (F 168) [.lst 5 (encs (aBo s))] (.lst 1 (bls (aAt (aBo s)))):=by
 have hb:=aT1 hlit
 have hr:=aJq hlit
 have:=aC6 (aBo s)
 exact t168 hf h3 (aBo s) (by omega) (by rw [hr]; omega) (by omega)
theorem bPo (hf:bLl P F T) (h169:bJp P F T) (h138:aYc P F T) (h125:bFp P F T) (s:List UInt8) (hs:s.length≤8192) (hlit:Lit s) (h37:PTr P (F 37) [.str s] (.tup [.lst 5 (encs (aBo s)),.int .i64 0])) (h168:PTr P (F 168) [.lst 5 (encs (aBo s))] (.lst 1 (bls (aAt (aBo s))))):PTr P (F 159) [.str s] (.tup [.lst 5 (secV (aC9 s)),.int .i64 0]):=by
 obtain ⟨p,hp⟩:∃ p,p=aAt (aBo s):=⟨_,rfl⟩
 have hpl:p.length=s.length:=by rw [hp,aFd,aJq hlit]
 have hsec:aC9 s=toF (rawF s p (s.length+1) 0):=by rw [aC9,hp]
 have hcnt:=aG1 s p (s.length+1) 0
 rw [← hp] at h168
 refine ptrC [] hf (by simp) (by simp [V.imm,V.imms,aD6]) ?_
 simp only [c159,push_cast,seval,-Nat.reducePow]
 refine aAa h37 (by simp only [push_cast,seval,-Nat.reducePow]) (by simp only [push_cast,seval,-Nat.reducePow,aAr]) ?_
 simp only [push_cast,seval,-Nat.reducePow]
 refine aAa h168 (by simp only [push_cast,seval,-Nat.reducePow,aAr]) (by simp only [push_cast,seval,-Nat.reducePow,aHj]) ?_
 refine aAg (fun m s1=>∃ a i id,rawF s p (s.length+1) 0=a++rawF s p (s.length+1) i∧m=s.length+1-i∧i≤s.length+1∧a.length≤i∧s1.env 0=.str s∧s1.env 6=.lst 1 (bls p)∧s1.env 8=.int .i64 i∧s1.env 7=.own id 5 0 a.length∧s1.L id=some (.vec (T 14) 5 (secV a))∧id<s1.nx) (s.length+1) ⟨[],0,565,?_⟩ fun m s1 hJ=>?_
 ·simp only [push_cast,seval,-Nat.reducePow]
  rfl
 ·obtain ⟨a,i,id,hra,rfl,hi,hal,j0,j4,j7,j6,jL,hid⟩:=hJ
  by_cases hlt:i≤s.length
  ·have hlt':((i:Nat):Int)≤((s.length:Nat):Int):=by omega
   have hle:=aD7 (s:=s) (i:=i) hlt
   rw [aV9 s p hlt] at hra
   have hsq:=aTe s p i
   have hnl:=fun j=>bHz (s:=s) (i:=i) (j:=j) hlt
   have hne:=bEd (s:=s) (i:=i) hlt
   generalize aBi s i=E at *
   obtain ⟨N,hN⟩:∃ N,N=min (E+1) s.length:=⟨_,rfl⟩
   rw [← hN] at hsq
   have hN':min (((E:Nat):Int)+1) ((s.length:Nat):Int)=(N:Nat):=by omega
   simp only [push_cast,seval,-Nat.reducePow,j0,j4,j7,j6,jL,hlt']
   refine aAw (fun s3=>s3.env 0=.str s∧s3.env 6=.lst 1 (bls p)∧s3.env 8=.int .i64 i∧s3.env 7=.own id 5 0 a.length∧s3.L id=some (.vec (T 14) 5 (secV a))∧id<s3.nx∧s3.env 9=.int .i64 E∧s3.env 10=.bool (allP p i E)) ?_ ?_
   ·simp only [push_cast,seval,-Nat.reducePow]
    refine aAg (fun m s3=>∃ j,i≤j∧j≤E∧m=E-j∧s3.env 0=.str s∧s3.env 6=.lst 1 (bls p)∧s3.env 8=.int .i64 i∧s3.env 7=.own id 5 0 a.length∧s3.L id=some (.vec (T 14) 5 (secV a))∧id<s3.nx∧s3.env 9=.int .i64 j∧s3.env 10=.bool (allP p i j)) (E-i) ⟨i,?_⟩ fun m s3 hJ=>?_
    ·simp only [push_cast,seval,-Nat.reducePow,j0,j4,j7,j6,jL,aUw]
     omega
    ·obtain ⟨j,hij,hje,rfl,g0,g4,g7,g6,gL,gid,g12,g11⟩:=hJ
     by_cases hj:j<E
     ·have hj':((j:Nat):Int)<((s.length:Nat):Int):=by omega
      have hjp:j<p.length:=by omega
      have hat:=bFx p hjp
      have hjb:j<(bls p).length:=by rw [aIp]; exact hjp
      have hst:=aQq p hij hjp
      have hnn:=hnl j hij hj
      have hnn':¬ (((s.getD j 0).toNat:Nat):Int)=10:=by omega
      cases hb:allP p i j with
      | true =>
        rw [hb,Bool.true_and] at hst
        rw [hb] at g11
        simp only [push_cast,seval,-Nat.reducePow,g0,g4,g7,g6,gL,g12,g11,hj',hat,hnn']
        exact ⟨by omega,hjb,by omega,E-(j+1),by omega,j+1,by omega,by omega,rfl,by omega,by simp,by rw [hst]⟩
      | false =>
        rw [hb,Bool.false_and] at hst
        rw [hb] at g11
        simp only [push_cast,seval,-Nat.reducePow,g0,g4,g7,g6,gL,g12,g11,hj',hnn']
        exact ⟨by omega,by omega,E-(j+1),by omega,j+1,by omega,by omega,rfl,by omega,by simp,by rw [hst]⟩
     ·obtain rfl:E=j:=by omega
      by_cases hE:E<s.length
      ·have hE':((E:Nat):Int)<((s.length:Nat):Int):=by omega
       have hn':(((s.getD E 0).toNat:Nat):Int)=10:=by have:=hne hE; omega
       simp only [push_cast,seval,-Nat.reducePow,g0,g4,g7,g6,gL,g12,g11,hE',hn']
       omega
      ·have hE':¬ ((E:Nat):Int)<((s.length:Nat):Int):=by omega
       simp only [push_cast,seval,-Nat.reducePow,g0,g4,g7,g6,gL,g12,g11,hE']
       omega
   ·rintro s3 ⟨g0,g4,g7,g6,gL,gid,g12,g11⟩
    simp only [push_cast,seval,-Nat.reducePow]
    refine aAw (fun s4=>∃ id2,s4.env 0=.str s∧s4.env 6=.lst 1 (bls p)∧s4.env 9=.int .i64 E∧s4.env 7=.own id2 5 0 (a++aC1 s p i).length∧s4.L id2=some (.vec (T 14) 5 (secV (a++aC1 s p i)))∧id2<s4.nx) ?_ ?_
    ·have hcal:=t169 h169 h138 h125 ((s.take E).drop i) (by rw [List.length_drop,List.length_take]; omega)
     have himm:(hdR ((s.take E).drop i)).imm=true:=by unfold hdR; split <;> rfl
     have htk:List.take a.length (secV a)=secV a:=List.take_of_length_le (by rw [aB9]; omega)
     have hpos:¬ aD4 ((s.take E).drop i)→(0:Int)<(hdN ((s.take E).drop i):Nat):=fun h=>by have:=aTi h; omega
     simp only [push_cast,seval,-Nat.reducePow,g0,g4,g7,g6,gL,g12,g11]
     repeat refine And.intro (by omega) ?_
     refine aAa hcal (by simp only [push_cast,seval,-Nat.reducePow]) himm ?_
     generalize (s.take E).drop i=ln at *
     simp only [hdR] at himm ⊢
     by_cases hbad:aD4 ln∨hdS ln=[]
     ·have hs0:aC1 s p i=[]:=by rw [hsq]; rcases hbad with h | h <;> simp [hdOk,h]
      rw [if_pos hbad,hs0,List.append_nil]
      cases hall:allP p i E with
      | true =>
        rw [hall] at g11
        simp only [push_cast,seval,-Nat.reducePow,g0,g4,g7,g6,gL,g12,g11]
        exact ⟨id,rfl,gL,by omega⟩
      | false =>
        rw [hall] at g11
        simp only [push_cast,seval,-Nat.reducePow,g0,g4,g7,g6,gL,g12,g11]
        exact ⟨id,rfl,gL,by omega⟩
     ·rw [if_neg hbad]
      rw [not_or] at hbad
      cases hall:allP p i E with
      | false =>
        have hs0:aC1 s p i=[]:=by rw [hsq]; simp [hdOk,hbad.1,hbad.2,hall]
        rw [hs0,List.append_nil]
        rw [hall] at g11
        simp only [push_cast,seval,-Nat.reducePow,g0,g4,g7,g6,gL,g12,g11]
        exact ⟨id,rfl,gL,by omega⟩
      | true =>
        have hs0:aC1 s p i=[⟨hdN ln,hdS ln,i,N,s.length⟩]:=by rw [hsq]; simp [hdOk,hbad.1,hbad.2,hall]
        have hsn:=aQf a ⟨hdN ln,hdS ln,i,N,s.length⟩
        have hp0:=hpos hbad.1
        simp only [Sec.v] at hsn
        rw [hs0]
        rw [hall] at g11
        simp only [push_cast,seval,-Nat.reducePow,g0,g4,g7,g6,gL,g12,g11,htk,hsn,hp0,hN',aK0]
        exact ⟨by omega,by rw [aB9]; omega,by omega,s3.nx+301,by simp,aAf _ _ _,by omega⟩
    ·rintro s4 ⟨id2,m0,m4,m9,m6,mL,mid⟩
     simp only [push_cast,seval,-Nat.reducePow,m0,m4,m9,m6,mL]
     have hsl:(aC1 s p i).length≤1:=by rw [hsq]; split <;> simp
     exact ⟨by omega,s.length+1-(E+1),by omega,a++aC1 s p i,E+1,id2,by rw [hra,List.append_assoc],rfl,by omega,by rw [List.length_append]; omega,by simp,rfl,mL,by omega⟩
  ·have hlt':¬ ((i:Nat):Int)≤((s.length:Nat):Int):=by omega
   rw [aGz s p (s.length+1) (i:=i) (by omega),List.append_nil] at hra
   simp only [push_cast,seval,-Nat.reducePow,j0,j4,j7,j6,jL,hlt']
   refine aAg (fun m s2=>∃ d r id,toF a=d++toF r∧a.length=d.length+r.length∧m=r.length∧s2.env 13=.int .i64 d.length∧s2.env 7=.own id 5 0 a.length∧s2.L id=some (.vec (T 14) 5 (secV (d++r)))∧id<s2.nx) a.length ⟨[],a,id,?_⟩ fun m s2 hJ=>?_
   ·simp only [push_cast,seval,-Nat.reducePow,j0,j4,j7,j6,jL]
    omega
   ·obtain ⟨d,r,id,htf,hlen,rfl,k6,k7,kL,kid⟩:=hJ
    cases r with
    | nil =>
      have hd:¬ ((d.length:Nat):Int)<((a.length:Nat):Int):=by simp at hlen; omega
      simp only [push_cast,seval,-Nat.reducePow,k6,k7,kL,hd]
      rw [hsec,hra,htf]
      simp only [toF]
      exact aKw kL (aD6 _) (by rw [aB9,List.length_append,hlen])
    | cons x q =>
      have hd:((d.length:Nat):Int)<((a.length:Nat):Int):=by simp at hlen; omega
      simp only [List.length_cons] at hlen
      simp only [push_cast,seval,-Nat.reducePow,k6,k7,kL,hd]
      repeat refine And.intro (by omega) ?_
      refine aAg (fun m s3=>∃ u v,q=u++v∧m=u.length∧s3.env 13=.int .i64 d.length∧s3.env 14=.int .i64 (d.length+u.length:Nat)∧s3.env 7=.own id 5 0 a.length∧s3.L id=some (.vec (T 14) 5 (secV (d++toOf x v::q)))∧id<s3.nx) q.length ⟨q,[],?_⟩ fun m s3 hJ=>?_
      ·have e1:((a.length:Nat):Int)-1=(d.length:Nat)+(q.length:Nat):=by omega
       have e2:toOf x []=x:=rfl
       simp only [push_cast,seval,-Nat.reducePow,k6,k7,kL,e1,e2]
       simp
       omega
      ·obtain ⟨u,v,rfl,rfl,g6,g17,g7,gL,gid⟩:=hJ
       have hx:=aHe d (toOf x v) (u++v)
       have hlv:(toOf x v).lev=x.lev:=rfl
       have hll:(secV (d++toOf x v::(u++v))).length=d.length+(u.length+v.length+1):=by rw [aB9]; simp
       simp only [List.length_append] at hlen
       rcases List.eq_nil_or_concat u with rfl | ⟨u,y,rfl⟩
       ·have hk:¬ ((d.length:Nat):Int)<((d.length+([]:List Sec).length:Nat):Int):=by simp
        simp only [List.length_nil,Nat.add_zero] at g17 hk
        simp only [push_cast,seval,-Nat.reducePow,g6,g17,g7,gL,hk]
        refine ⟨by omega,v.length,by simp,d++[toOf x v],v,id,?_,by simp at hlen ⊢; omega,rfl,by simp,rfl,by simpa using gL,by omega⟩
        rw [htf]; simp [toF]
       ·have hKd:d.length+(u.concat y).length=d.length+1+u.length:=by simp; omega
        rw [hKd] at g17
        generalize hK:d.length+1+u.length=K at *
        simp only [List.concat_eq_append,List.append_assoc,List.singleton_append,List.length_append,List.length_singleton] at *
        have hk:((d.length:Nat):Int)<((K:Nat):Int):=by omega
        have hy:(secV (d++toOf x v::(u++y::v))).getD K .junk=y.v:=by
         have:=aHe (d++toOf x v::u) y v
         rw [show (d++toOf x v::u).length=K by simp; omega] at this
         simpa using this
        have hto:=bA9 x y v
        have hse:=aTb d (toOf x v) (endS x y.fr) (u++y::v)
        obtain ⟨X,hX⟩:∃ X,X=toOf x v:=⟨_,rfl⟩
        have hXe:endS x y.fr=⟨X.lev,X.title,X.fr,X.bd,y.fr⟩:=by rw [hX]; rfl
        rw [← hX] at hx hy gL hll hto hse hlv
        by_cases hyx:y.lev≤x.lev
        ·have hyx':((y.lev:Nat):Int)≤((X.lev:Nat):Int):=by omega
         rw [if_pos hyx] at hto
         rw [hXe] at hse
         simp only [Sec.v] at hse
         simp only [push_cast,seval,-Nat.reducePow,g6,g17,g7,gL,hk,hx,hy,Sec.v,hyx']
         refine ⟨by omega,by omega,by omega,by omega,by omega,by omega,by omega,by omega,by omega,u.length,by omega,u,y::v,by simp,rfl,by congr 1; omega,?_,by omega⟩
         rw [hse,hto,hXe]
        ·have hyx':¬ ((y.lev:Nat):Int)≤((X.lev:Nat):Int):=by omega
         rw [if_neg hyx] at hto
         simp only [push_cast,seval,-Nat.reducePow,g6,g17,g7,gL,hk,hx,hy,Sec.v,hyx']
         refine ⟨by omega,by omega,by omega,by omega,by omega,u.length,by omega,u,y::v,by simp,rfl,by congr 1; omega,?_,by omega⟩
         rw [hto,hX]
end Go.Ab
namespace Go.Ab
variable {P:Program} {F T:Nat→Nat}
def aH6 (P:Program) (f:Nat) (s:List UInt8):Prop:=PTr P f [.str s] (.tup [.lst 5 (secV (aC9 s)),.int .i64 0])
theorem bOg (hf:bEz P F T) (s:List UInt8) (hs:s.length≤8192) (h124:aH6 P (F 124) s):PTr P (F 131) [.str s] (.tup [.str (aHz s),.int .i64 0]):=by
 have h1:PTr _ _ _ _:=h124
 have hok:=aKo s
 refine ptrC [] hf (by simp) rfl ?_
 simp only [c131,push_cast,seval,-Nat.reducePow]
 refine aAa h1 (by simp only [push_cast,seval,-Nat.reducePow]) (by simp only [push_cast,seval,-Nat.reducePow,aD6]) ?_
 unfold aHz
 cases hl:aC9 s with
 | nil =>
   simp only [push_cast,seval,-Nat.reducePow,secV,List.map_nil,view]
 | cons x r =>
   have:=hok x (by rw [hl]; simp)
   have h2:=this.bd
   have h3:=this.le
   have h4:=this.to
   have h5:¬ (((r.length:Nat):Int)+1=0):=by omega
   have h6:List.drop 0 (List.take x.fr s)=List.take x.fr s:=rfl
   simp only [push_cast,seval,-Nat.reducePow,secV,List.map_cons,view,Sec.v,List.getD_cons_zero,List.length_cons,List.length_map,h5]
   omega
theorem bJq (hf:bIu P F T) (h131:bEz P F T) (s:List UInt8) (hs:s.length≤8192) (h124:aH6 P (F 124) s):PTr P (F 258) [.str s] (.tup [.lst 3 ((aAc s).map Un.v),.int .i64 0]):=by
 have h1:PTr _ _ _ _:=h124
 have h2:=bOg h131 s hs h124
 have hok:=aKo s
 have hpr:=aKt s
 have hcnt:=aNl s
 have hun:aAc s=⟨[],0,aHz s⟩::uGo s [] (aC9 s):=rfl
 have himm:∀ l:List Un,V.imms (l.map Un.v)=true:=fun l=>aFe _ _ fun u=>rfl
 refine ptrC [] hf (by simp) (by simp [V.imm,V.imms,himm]) ?_
 simp only [c258,push_cast,seval,-Nat.reducePow]
 refine aAa h1 (by simp only [push_cast,seval,-Nat.reducePow]) (by simp only [push_cast,seval,-Nat.reducePow,aD6]) ?_
 simp only [push_cast,seval,-Nat.reducePow]
 refine aAa h2 (by simp only [push_cast,seval,-Nat.reducePow]) (by simp only [push_cast,seval,-Nat.reducePow]) ?_
 obtain ⟨l,hl⟩:∃ l,l=aC9 s:=⟨_,rfl⟩
 rw [← hl] at hok hpr hcnt hun ⊢
 have hlen:=aB9 l
 simp only [push_cast,seval,-Nat.reducePow,hlen]
 refine aAg (fun m s1=>∃ d r out id mid c ml,l=d++r∧m=r.length∧out++uGo s d r=aAc s∧(∀ t,((getK ml t).getD 0)=cntT d t)∧s1.env 0=.str s∧s1.env 4=.lst 5 (secV l)∧s1.env 30=.lst 5 (secV l)∧s1.env 31=.int .i64 l.length∧s1.env 32=.int .i64 d.length∧s1.env 8=.own id 3 0 out.length∧s1.L id=some (.vec (T 28) 3 (out.map Un.v))∧s1.env 9=.map mid∧s1.L mid=some (.map c (mE V.str intN ml))∧id<s1.nx∧mid<s1.nx∧id≠mid) l.length ⟨[],l,[⟨[],0,aHz s⟩],316,389,0,[],?_⟩ fun m s1 hJ=>?_
 ·simp only [push_cast,seval,-Nat.reducePow]
  exact ⟨hun.symm,fun t=>rfl,rfl,rfl⟩
 ·obtain ⟨d,r,out,id,mid,c,ml,rfl,rfl,ho,hm,j0,j4,j30,j31,j32,j8,jL,j9,jM,hid,hmid,hne⟩:=hJ
  cases r with
  | nil =>
    have h':¬ ((d.length:Nat):Int)<((d++[]).length:Nat):=by simp
    simp only [push_cast,seval,-Nat.reducePow,j0,j4,j30,j31,j32,j8,j9,h']
    rw [uGo,List.append_nil] at ho
    subst ho
    have hv:view s1.L 2 (.own id 3 0 (aAc s).length)=.lst 3 ((aAc s).map Un.v):=by
     have:=aC4 (n:=1) (sz:=3) jL (himm _)
     rwa [List.length_map] at this
    simp only [view] at hv ⊢
    simp only [List.map_cons,List.map_nil,hv,view]
  | cons x r =>
    have h':((d.length:Nat):Int)<((d++x::r).length:Nat):=by simp; omega
    have hx:=hok x (by simp)
    have x1:=hx.bd
    have x2:=hx.le
    have x3:=hx.to
    have e1:(((d.length:Nat):Int)+1).toNat=d.length+1:=by omega
    rw [uGo] at ho
    have hfind:=aJ0 (ks:=[1]) (ag:=false) (enc:=V.str) (ev:=intN) aHg (fun _=>rfl) x.title ml
    have hres:=bB6 (enc:=V.str) (ev:=intN) (.int .i64 0) ml x.title
    have hcx:=hm x.title
    have hres2:mres false (.int .i64 0) (mE V.str intN ml) (ixK ml x.title)=.int .i64 (cntT d x.title:Nat):=by
     rw [hres,← hcx]
     cases getK ml x.title <;> rfl
    have hcl:cntT d x.title≤d.length:=by unfold cntT; exact List.length_filter_le _ _
    obtain ⟨c',ml',hput,hget⟩:=bAq (enc:=V.str) (ev:=intN) c ml x.title (cntT d x.title+1)
    have hput2:aHi c (mE V.str intN ml) (.str x.title) (.int .i64 (((cntT d x.title:Nat):Int)+1)) (ixK ml x.title)=.map c' (mE V.str intN ml'):=hput
    have hm':∀ t,((getK ml' t).getD 0)=cntT (d++[x]) t:=fun t=>by
     rw [hget,aHs]
     by_cases ht:t=x.title
     ·subst ht; simp
     ·rw [if_neg ht,if_neg fun e=>ht e.symm,hm t]; rfl
    have hul:=aB2 s
    have hol2:out.length≤8193:=by have:=congrArg List.length ho; rw [List.length_append] at this; omega
    have hdl:(d++x::r).length=d.length+(r.length+1):=by simp
    obtain ⟨⟨a1,a2,a3,a4⟩,a5,a6,a7,a8⟩:((s1.nx+83≠mid)∧(mid≠s1.nx+83)∧(s1.nx+83≠id)∧(id≠s1.nx+83))∧(s1.nx+136≠mid)∧(mid≠s1.nx+136)∧(s1.nx+136≠id)∧(id≠s1.nx+136):=by omega
    have hne2:mid≠id:=fun e=>hne e.symm
    have hol:(out.map Un.v).length=out.length:=List.length_map ..
    have hnot:∀ k:Nat,s1.nx+k≠mid∧mid≠s1.nx+k∧s1.nx+k≠id∧id≠s1.nx+k:=fun k=>by omega
    simp only [push_cast,seval,-Nat.reducePow,j0,j4,j30,j31,j32,j8,j9,h',hlen,aHe,Sec.v]
    refine ⟨by omega,?_⟩
    cases r with
    | nil =>
      have q:¬ ((d.length:Nat):Int)+1<((d++[x]).length:Nat):=by simp
      simp only [push_cast,seval,-Nat.reducePow,j0,j4,j30,j31,j32,j8,j9,q]
      refine aCo (cl:=c) (by simp only [upd,(hnot 83).2.1,if_false,jM]) (by simp [aE0,aHg,V.isA,V.imm]) hfind (by rw [hres2]; rfl) ?_
      simp only [push_cast,seval,-Nat.reducePow,j0,j8,j9,hres2,a1,a2,a3,a4,jL,hol]
      refine ⟨by omega,by omega,?_⟩
      refine aCo (cl:=c) (by simp only [upd,a2,hne2,(hnot 352).2.1,if_false,jM]) (by simp [aE0,aHg,V.isA,V.imm]) hfind (by rw [hres2]; rfl) ?_
      simp only [push_cast,seval,-Nat.reducePow,j0,j8,j9,hres2,a1,a2,a3,a4,jL,hol]
      refine ⟨by omega,?_⟩
      refine aHl (cl:=c) (by simp only [upd,a2,hne2,(hnot 352).2.1,if_false,jM]) (by simp [aE0,aHg,V.isA,V.imm]) rfl hfind ?_
      simp only [push_cast,seval,-Nat.reducePow,j0,j4,j30,j31,j32,j8,j9,hput2]
      refine ⟨by omega,([]:List Sec).length,by simp,d++[x],([]:List Sec),out++[⟨x.title,cntT d x.title,(s.take s.length).drop x.fr⟩],s1.nx+352,mid,c',ml',by simp,by simp,by rw [← ho]; simp [nxF],hm',by simp,by simp,?_,?_,?_⟩
      ·rw [aAd _ _ _ _ (hnot 352).1,aAf,List.map_append,List.take_of_length_le (by rw [hol]; exact Nat.le_refl _)]; rfl
      ·rfl
      ·exact ⟨aAf _ _ _,by omega,by omega,by omega⟩
    | cons y r2 =>
      have q:((d.length:Nat):Int)+1<((d++x::y::r2).length:Nat):=by simp; omega
      simp only [push_cast,seval,-Nat.reducePow,j0,j4,j30,j31,j32,j8,j9,q,e1,aTr,Sec.v,hlen]
      refine ⟨by omega,by omega,by omega,?_⟩
      refine aCo (cl:=c) (by simp only [upd,(hnot 83).2.1,if_false,jM]) (by simp [aE0,aHg,V.isA,V.imm]) hfind (by rw [hres2]; rfl) ?_
      simp only [push_cast,seval,-Nat.reducePow,j0,j8,j9,hres2,a1,a2,a3,a4,jL,hol]
      refine ⟨by have:=(List.pairwise_cons.1 (List.pairwise_append.1 hpr).2.1).1 y (by simp); omega,by have:=(hok y (by simp)).bd; have:=(hok y (by simp)).le; have:=(hok y (by simp)).to; omega,by omega,?_⟩
      refine aCo (cl:=c) (by simp only [upd,a2,hne2,(hnot 424).2.1,if_false,jM]) (by simp [aE0,aHg,V.isA,V.imm]) hfind (by rw [hres2]; rfl) ?_
      simp only [push_cast,seval,-Nat.reducePow,j0,j8,j9,hres2,a1,a2,a3,a4,jL,hol]
      refine ⟨by omega,?_⟩
      refine aHl (cl:=c) (by simp only [upd,a2,hne2,(hnot 424).2.1,if_false,jM]) (by simp [aE0,aHg,V.isA,V.imm]) rfl hfind ?_
      simp only [push_cast,seval,-Nat.reducePow,j0,j4,j30,j31,j32,j8,j9,hput2]
      refine ⟨by omega,(y::r2).length,by simp,d++[x],(y::r2),out++[⟨x.title,cntT d x.title,(s.take y.fr).drop x.fr⟩],s1.nx+424,mid,c',ml',by simp,by simp,by rw [← ho]; simp [nxF],hm',by simp,by simp,?_,?_,?_⟩
      ·rw [aAd _ _ _ _ (hnot 424).1,aAf,List.map_append,List.take_of_length_le (by rw [hol]; exact Nat.le_refl _)]; rfl
      ·rfl
      ·exact ⟨aAf _ _ _,by omega,by omega,by omega⟩
structure MrgL (P:Program) (F T:Nat→Nat):Prop extends OrdFns P F T where
 h257:bL9 P F T
 h258:bIu P F T
 h259:bI5 P F T
 h262:bH3 P F T
 h131:bEz P F T
 jn:bK7 P F
theorem bRi (K:MrgL P F T) (b x y:List UInt8) (hb:b.length≤8192) (hx:x.length≤8192) (hy:y.length≤8192) (sb:aH6 P (F 124) b) (sx:aH6 P (F 124) x) (sy:aH6 P (F 124) y) (hlen:b.length+2*x.length+2*y.length+2≤8192)
 (hI:¬ (x=b∨x=y∨y=b)→(InsC P F T∨∀ u,u∈aAc y→hasU (aAc x) u.nm=true)):PTr P (F 257) [.str b,.str x,.str y] (mrgV (aCw b x y)):=by
 have c0:=bJq K.h258 K.h131 b hb sb
 have c1:=bJq K.h258 K.h131 x hx sx
 have c2:=bJq K.h258 K.h131 y hy sy
 have hml:=aOx b x y
 refine ptrC [] K.h257 (by simp) (by simp [mrgV,V.imm,V.imms,aUc]) ?_
 simp only [c257,push_cast,seval,-Nat.reducePow]
 obtain ⟨q0,hq0⟩:∃ q,q=V.lst 3 ((aAc b).map Un.v):=⟨_,rfl⟩
 obtain ⟨q1,hq1⟩:∃ q,q=V.lst 3 ((aAc x).map Un.v):=⟨_,rfl⟩
 obtain ⟨q2,hq2⟩:∃ q,q=V.lst 3 ((aAc y).map Un.v):=⟨_,rfl⟩
 rw [← hq0] at c0
 rw [← hq1] at c1
 rw [← hq2] at c2
 have i0:q0.imm=true:=by rw [hq0]; exact aBd _
 have i1:q1.imm=true:=by rw [hq1]; exact aBd _
 have i2:q2.imm=true:=by rw [hq2]; exact aBd _
 refine aAg (fun m s=>∃ i,i≤3∧m=3-i∧s.env 0=.str b∧s.env 1=.str x∧s.env 2=.str y∧s.env 26=.lst 1 [.str b,.str x,.str y]∧s.env 27=.int .i64 3∧s.env 28=.int .i64 i∧s.env 6=.ptr 6 0∧s.env 8=.ptr 130 0∧s.L 6=some (.box (T 27) [.str [],.nils])∧s.L 130=some (.box (T 29) [if 0<i then q0 else .nils,if 1<i then q1 else .nils,if 2<i then q2 else .nils])∧130<s.nx) 3 ⟨0,?_⟩ fun m s hJ=>?_
 ·simp only [push_cast,seval,-Nat.reducePow]
 ·obtain ⟨i,hi,rfl,j0,j1,j2,j26,j27,j28,j6,j8,jL6,jL8,hnx⟩:=hJ
  have hi4:i=0∨i=1∨i=2∨i=3:=by omega
  rcases hi4 with rfl | rfl | rfl | rfl
  ·simp only [push_cast,seval,-Nat.reducePow,j0,j1,j2,j26,j27,j28,j6,j8]
   refine aAa c0 (by simp only [push_cast,seval,-Nat.reducePow]) (by simp only [push_cast,seval,-Nat.reducePow,i0]) ?_
   simp only [push_cast,seval,-Nat.reducePow,j0,j1,j2,j26,j27,j28,j6,j8,jL8,jL6]
   exact ⟨by rw [hq0]; rfl,2,by omega,1,by omega,by omega,rfl,by rw [hq0]; rfl,by omega⟩
  ·simp only [push_cast,seval,-Nat.reducePow,j0,j1,j2,j26,j27,j28,j6,j8]
   refine aAa c1 (by simp only [push_cast,seval,-Nat.reducePow]) (by simp only [push_cast,seval,-Nat.reducePow,i1]) ?_
   simp only [push_cast,seval,-Nat.reducePow,j0,j1,j2,j26,j27,j28,j6,j8,jL8,jL6]
   exact ⟨by rw [hq1]; rfl,1,by omega,2,by omega,by omega,rfl,by rw [hq1]; rfl,by omega⟩
  ·simp only [push_cast,seval,-Nat.reducePow,j0,j1,j2,j26,j27,j28,j6,j8]
   refine aAa c2 (by simp only [push_cast,seval,-Nat.reducePow]) (by simp only [push_cast,seval,-Nat.reducePow,i2]) ?_
   simp only [push_cast,seval,-Nat.reducePow,j0,j1,j2,j26,j27,j28,j6,j8,jL8,jL6]
   exact ⟨by rw [hq2]; rfl,0,by omega,3,by omega,by omega,rfl,by rw [hq2]; rfl,by omega⟩
  ·unfold aCw
   by_cases e1:x=b
   ·subst e1
    simp only [push_cast,seval,-Nat.reducePow,j0,j1,j2,j26,j27,j28,j6,j8,jL6]
    simp [view,mrgV,aNh,ln]
   by_cases e2:x=y
   ·subst e2
    simp only [push_cast,seval,-Nat.reducePow,j0,j1,j2,j26,j27,j28,j6,j8,jL6,e1]
    simp [view,mrgV,aNh,ln]
   by_cases e3:y=b
   ·subst e3
    simp only [push_cast,seval,-Nat.reducePow,j0,j1,j2,j26,j27,j28,j6,j8,jL6,e1,e2]
    simp [view,mrgV,aNh,ln,e1]
   simp only [push_cast,seval,-Nat.reducePow,j0,j1,j2,j26,j27,j28,j6,j8,jL6,e1,e2,e3]
   have jL8':s.L 130=some (.box (T 29) [q0,q1,q2]):=jL8
   subst hq0 hq1 hq2
   have ulb:=aB2 b
   have ulx:=aB2 x
   have uly:=aB2 y
   simp only [push_cast,seval,-Nat.reducePow,jL8',aBd]
   refine aAe (t259 K.h259 K.h261 (aAc b) (by omega) _ _) ?_
   rintro v L1 n1 ⟨cb,mlb,y1,rfl,y2,y3,y4,y5⟩
   simp only [push_cast,seval,-Nat.reducePow,aBd]
   refine aAe (t259 K.h259 K.h261 (aAc x) (by omega) _ _) ?_
   rintro v L2 n2 ⟨cx,mlx,z1,rfl,z2,z3,z4,z5⟩
   simp only [push_cast,seval,-Nat.reducePow,aBd]
   refine aAe (t259 K.h259 K.h261 (aAc y) (by omega) _ _) ?_
   rintro v L3 n3 ⟨cy,mly,w1,rfl,w2,w3,w4,w5⟩
   have ord:=t260 K.toOrdFns (aAc x) (aAc y) (hI (by simp [e1,e2,e3])) (by simp [aAc]) (by omega) (by omega) (fun u r hu=>by
    rw [aAc] at hu
    injection hu with hu _
    rw [← hu]
    exact aJ7 x)
   simp only [push_cast,seval,-Nat.reducePow,j0,j1,j2,j26,j27,j28,j6,j8]
   refine aAa ord (by simp only [push_cast,seval,-Nat.reducePow,aBd]) (by simp only [push_cast,seval,-Nat.reducePow,aBd]) ?_
   obtain ⟨l,hl⟩:∃ l,l=aBm (aAc x) (aAc y):=⟨_,rfl⟩
   rw [← hl]
   have hll:=aCn l
   have g6:L3 6=some (.box (T 27) [.str [],.nils]):=by
    rw [w5 6 (by omega),z5 6 (by omega),y5 6 (by omega),aAd _ _ _ _ (by omega)]; exact jL6
   have g1:L3 (s.nx+515)=some (.map cb (mE pnV tvS mlb)):=by rw [w5 _ (by omega),z5 _ (by omega)]; exact y3
   have g2:L3 (n1+149)=some (.map cx (mE pnV tvS mlx)):=by rw [w5 _ (by omega)]; exact z3
   have g3:L3 (n2+149)=some (.map cy (mE pnV tvS mly)):=w3
   simp only [push_cast,seval,-Nat.reducePow,j6,hll]
   obtain ⟨m1,hm1⟩:∃ m,m=s.nx+515:=⟨_,rfl⟩
   obtain ⟨m2,hm2⟩:∃ m,m=n1+149:=⟨_,rfl⟩
   obtain ⟨m3,hm3⟩:∃ m,m=n2+149:=⟨_,rfl⟩
   obtain ⟨q,hq⟩:∃ m,m=n3+138:=⟨_,rfl⟩
   rw [← hm1] at g1 ⊢
   rw [← hm2] at g2 ⊢
   rw [← hm3] at g3 ⊢
   rw [← hq]
   have o1:6<q∧m1<q∧m2<q∧m3<q:=by omega
   have z6:(6:Nat)≠q∧m1≠q∧m2≠q∧m3≠q:=by omega
   refine aAg (fun m s=>∃ d r uid cv,l=d++r∧m=r.length∧s.env 6=.ptr 6 0∧s.env 13=.map m1∧s.env 14=.map m2∧s.env 15=.map m3∧s.env 16=.ptr q 0∧s.env 17=.own uid 3 0 (aFb (aAc b) (aAc x) (aAc y) d).length∧s.env 74=.lst 3 (l.map Un.v)∧s.env 75=.int .i64 l.length∧s.env 76=.int .i64 d.length ∧
    s.L q=some (.box (T 27) [.str [],cv])∧OwnS T s (q+1) uid cv (aCz (aAc b) (aAc x) (aAc y) d)∧s.L uid=some (.vec (T 28) 3 ((aFb (aAc b) (aAc x) (aAc y) d).map Un.v))∧q<uid∧uid<s.nx∧q<s.nx∧(∀ k,k<q→s.L k=L3 k)) l.length ⟨[],l,n3+366,.nils,?_⟩ fun m s2 hJ=>?_
   ·simp only [push_cast,seval,-Nat.reducePow]
    exact ⟨j6,rfl,by rw [aAd _ _ _ _ (by omega),aAf],.inl ⟨rfl,rfl⟩,rfl,by omega,by omega,by omega,fun k hk=>by rw [aAd _ _ _ _ (by omega),aAd _ _ _ _ (by omega)]⟩
   ·obtain ⟨d,r,uid,cv,rfl,rfl,i6,i13,i14,i15,i16,i17,i74,i75,i76,iq,hcv,iu,hqu,hun,hqn,hold⟩:=hJ
    cases r with
    | nil =>
      have h':¬ ((d.length:Nat):Int)<((d++[]).length:Nat):=by simp
      simp only [push_cast,seval,-Nat.reducePow,i6,i13,i14,i15,i16,i17,i74,i75,i76,h']
      rw [List.append_nil] at hl
      subst hl
      have hmf:aCw b x y=(aD2 (aFb (aAc b) (aAc x) (aAc y) (aBm (aAc x) (aAc y))),aCz (aAc b) (aAc x) (aAc y) (aBm (aAc x) (aAc y))):=by
       unfold aCw
       rw [if_neg (by simp [e1,e2]),if_neg e3]
      rw [hmf] at hml
      obtain ⟨ru,hru⟩:∃ ru,ru=aFb (aAc b) (aAc x) (aAc y) (aBm (aAc x) (aAc y)):=⟨_,rfl⟩
      obtain ⟨cu,hcu⟩:∃ cu,cu=aCz (aAc b) (aAc x) (aAc y) (aBm (aAc x) (aAc y)):=⟨_,rfl⟩
      have hrl:ru.length≤(aBm (aAc x) (aAc y)).length:=by
       rw [hru,aGs]
       have:=(aE6 (aAc b) (aAc x) (aAc y) ((aBm (aAc x) (aAc y)).map Un.nm)).2
       rwa [List.length_map] at this
      have hodl:(aBm (aAc x) (aAc y)).length≤20000:=by
       have:=(aEb (aAc y) (aAc x) ([],0) (List.pairwise_map.2 (aDj x))).2
       unfold aBm
       omega
      rw [← hru] at iu hml ⊢
      rw [← hcu] at hcv
      have hsum:=(aF9 ru).1
      have hone:∀ v,v∈ru→v.text.length≤sumT ru:=fun v hv=>by
       exact aUa hv
      have jn:=K.jn (ru.map Un.u3) (by rw [List.length_map]; omega) (fun v hv=>by
       obtain ⟨w,hw,rfl⟩:=List.mem_map.1 hv
       have:=hone w hw
       simp only at hml
       show w.text.length≤_
       omega) (by
       rw [List.map_map]
       show sumT ru≤_
       simp only at hml
       omega)
      rw [← un_v,List.map_map,show (ru.map ((fun u:U3=>u.2.2) ∘ Un.u3))=ru.map Un.text from rfl,← aJy] at jn
      have hvw:view s2.L 3 (.own uid 3 0 ru.length)=.lst 3 (ru.map Un.v):=by
       have:=aC4 (n:=2) (sz:=3) iu (aBd ru)
       rwa [aCn] at this
      rw [hvw]
      refine aF6 jn (by simp only [push_cast,seval,-Nat.reducePow,aBd]) rfl ?_
      simp only at hml
      have hml':¬ (8192:Int)<((aD2 ru).length:Nat):=by omega
      have h6:=hold 6 (by omega)
      rw [g6] at h6
      simp only [push_cast,seval,-Nat.reducePow,i16,iq,hml',i6,h6,z6.1]
      refine ⟨by rw [hcv.one]; rfl,?_⟩
      have hvc:=hcv.view (upd (upd s2.L q (some (Blk.box (T 27) [V.str (aD2 ru),cv]))) 6 (some (Blk.box (T 27) [V.str (aD2 ru),cv]))) (fun k hk=>by rw [aAd _ _ _ _ (by omega),aAd _ _ _ _ (by omega)]) 0
      rw [hcu] at hvc
      rw [if_neg (by simp)]
      simp only [view,List.map_cons,List.map_nil] at hvc ⊢
      rw [hvc]
      rfl
    | cons u r =>
      have h':((d.length:Nat):Int)<((d++u::r).length:Nat):=by simp; omega
      have hg:((d++u::r).map Un.v).getD d.length .junk=.agg [.str u.title,.int .i64 u.nth,.str u.text]:=by simp [List.getD,Un.v]
      have hdl:(d++u::r).length=d.length+(r.length+1):=by simp
      simp only [push_cast,seval,-Nat.reducePow,i6,i13,i14,i15,i16,i17,i74,i75,i76,h',hll,hg]
      refine aAa (t261 K.h261 u.title u.nth u.text) (by simp only [push_cast,seval,-Nat.reducePow]) (by simp only [push_cast,seval,-Nat.reducePow]) ?_
      simp only [push_cast,seval,-Nat.reducePow,i13,i14,i15,i16,i17]
      have hz0:V.agg [.bool false,.str []]=tvV none:=rfl
      have hfd:∀ ml:List ((List UInt8×Int)×List UInt8×Nat),aDh true [1,0] (.agg [.str u.title,.int .i64 u.nth]) (mE pnV tvS ml)=some (ixK ml (u.title,(u.nth:Int))):=fun ml=>aJ0 (ks:=[1,0]) (ag:=true) (enc:=pnV) (ev:=tvS) bGq (fun _=>rfl) (u.title,(u.nth:Int)) ml
      have hmr:∀ (s0:List UInt8) (ml:List ((List UInt8×Int)×List UInt8×Nat)),(∀ k,getK ml k=aHx (aAc s0) k)→mres false (.agg [.bool false,.str []]) (mE pnV tvS ml) (ixK ml (u.title,(u.nth:Int)))=tvV (txtU (aAc s0) u.nm):=fun s0 ml hk=>by
       rw [bB6,hk,aPe (aDj s0) u.nm]
       cases txtU (aAc s0) u.nm <;> rfl
      have hrb:=hmr b mlb y4
      have hrx:=hmr x mlx z4
      have hry:=hmr y mly w4
      have hko:aE0 true [1,0] (.agg [.str u.title,.int .i64 u.nth])=true:=by simp [aE0,V.isA,V.cells,aAp,aBs,V.imm,V.imms]
      have hm1':=hold m1 o1.2.1
      have hm2':=hold m2 o1.2.2.1
      have hm3':=hold m3 o1.2.2.2
      rw [g1] at hm1'
      rw [g2] at hm2'
      rw [g3] at hm3'
      refine aCo (cl:=cb) (by rw [aAd _ _ _ _ (by omega),aAd _ _ _ _ (by omega),aAd _ _ _ _ (by omega),aAd _ _ _ _ (by omega)]; exact hm1') hko (hfd mlb) (by rw [hrb]; exact aEo _) ?_
      simp only [push_cast,seval,-Nat.reducePow,i13,i14,i15,i16,i17,hrb]
      refine aCo (cl:=cx) (by rw [aAd _ _ _ _ (by omega),aAd _ _ _ _ (by omega),aAd _ _ _ _ (by omega),aAd _ _ _ _ (by omega)]; exact hm2') hko (hfd mlx) (by rw [hrx]; exact aEo _) ?_
      simp only [push_cast,seval,-Nat.reducePow,i13,i14,i15,i16,i17,hrb,hrx]
      refine aCo (cl:=cy) (by rw [aAd _ _ _ _ (by omega),aAd _ _ _ _ (by omega),aAd _ _ _ _ (by omega),aAd _ _ _ _ (by omega)]; exact hm3') hko (hfd mly) (by rw [hry]; exact aEo _) ?_
      simp only [push_cast,seval,-Nat.reducePow,i13,i14,i15,i16,i17,hrb,hrx,hry]
      refine aAa (t262 K.h262 _ _ _) (by simp only [push_cast,seval,-Nat.reducePow,aEo]) (by simp only [push_cast,seval,-Nat.reducePow,aEo]) ?_
      obtain ⟨co,hco⟩:∃ co,co=aBt (txtU (aAc b) u.nm) (txtU (aAc x) u.nm) (txtU (aAc y) u.nm):=⟨_,rfl⟩
      rw [← hco]
      obtain ⟨c,f⟩:=co
      have hR:aFb (aAc b) (aAc x) (aAc y) (d++[u])=aFb (aAc b) (aAc x) (aAc y) d++(c.map fun s=>(⟨u.title,u.nth,s⟩:Un)).toList:=by
       unfold aFb
       rw [List.filterMap_append,List.filterMap_cons,List.filterMap_nil,← hco]
       cases c <;> rfl
      have hC:aCz (aAc b) (aAc x) (aAc y) (d++[u])=aCz (aAc b) (aAc x) (aAc y) d++(if f then [u.title] else []):=by
       unfold aCz
       rw [List.filter_append,List.map_append,List.filter_cons,List.filter_nil,← hco]
       cases f <;> rfl
      obtain ⟨ru,hru⟩:∃ ru,ru=aFb (aAc b) (aAc x) (aAc y) d:=⟨_,rfl⟩
      obtain ⟨cu,hcu⟩:∃ cu,cu=aCz (aAc b) (aAc x) (aAc y) d:=⟨_,rfl⟩
      rw [← hru] at hR iu
      rw [← hcu] at hC hcv
      have hdle:d.length+(r.length+1)≤20000:=by
       have h2:=(aEb (aAc y) (aAc x) ([],0) (List.pairwise_map.2 (aDj x))).2
       have h3:(aBm (aAc x) (aAc y)).length≤(aAc x).length+(aAc y).length:=h2
       rw [← hl] at h3
       omega
      have hrl:ru.length≤20000:=by
       have h1:ru.length≤d.length:=by
        rw [hru,aGs]
        have:=(aE6 (aAc b) (aAc x) (aAc y) (d.map Un.nm)).2
        rwa [List.length_map] at this
       omega
      have hcl:cu.length≤20000:=by
       have h1:cu.length≤d.length:=by
        rw [hcu]
        unfold aCz
        rw [List.length_map]
        exact List.length_filter_le _ _
       omega
      have hlru:=aCn ru
      cases f with
      | false =>
        cases c with
        | none =>
          simp only [push_cast,seval,-Nat.reducePow,tvV,i6,i13,i14,i15,i16,i17,i74,i75,i76,← hru]
          refine ⟨by omega,r.length,by omega,d++[u],r,uid,cv,by simp,rfl,by rw [hR]; simp,by simp,?_,?_,?_,by omega,by omega,by omega,?_⟩
          ·repeat rw [aAd _ _ _ _ (by omega)]
           exact iq
          ·rw [hC]
           simp only [Bool.false_eq_true,if_false,List.append_nil]
           exact hcv.mono (fun k h1 h2 h3=>by simp only; repeat rw [aAd _ _ _ _ (by omega)]) (by simp only; omega) (.inl rfl)
          ·rw [hR]
           repeat rw [aAd _ _ _ _ (by omega)]
           simpa using iu
          ·intro k hk
           repeat rw [aAd _ _ _ _ (by omega)]
           exact hold k hk
        | some z =>
          have u1:uid≠s2.nx+141:=by omega
          have u2:uid≠s2.nx+264:=by omega
          have u3:uid≠s2.nx+387:=by omega
          simp only [push_cast,seval,-Nat.reducePow,tvV,i6,i13,i14,i15,i16,i17,i74,i75,i76,← hru,u1,u2,u3,iu,hlru]
          refine ⟨by omega,by omega,r.length,by omega,d++[u],r,s2.nx+965,cv,by simp,rfl,by rw [hR]; simp,by simp,?_,?_,?_,by omega,by omega,by omega,?_⟩
          ·repeat rw [aAd _ _ _ _ (by omega)]
           exact iq
          ·rw [hC]
           simp only [Bool.false_eq_true,if_false,List.append_nil]
           exact hcv.mono (fun k h1 h2 h3=>by simp only; repeat rw [aAd _ _ _ _ (by omega)]) (by simp only; omega) (.inr (by omega))
          ·rw [hR,aAf,List.map_append,List.take_of_length_le (by rw [hlru]; exact Nat.le_refl _)]
           rfl
          ·intro k hk
           repeat rw [aAd _ _ _ _ (by omega)]
           exact hold k hk
      | true =>
        have u1:uid≠s2.nx+141:=by omega
        have u2:uid≠s2.nx+264:=by omega
        have u3:uid≠s2.nx+387:=by omega
        have q1:q≠s2.nx+141:=by omega
        have q2:q≠s2.nx+264:=by omega
        have q3:q≠s2.nx+387:=by omega
        have q4:q≠s2.nx+711:=by omega
        have u4:uid≠s2.nx+711:=by omega
        have r1:s2.nx+141≠q:=by omega
        have r2:s2.nx+387≠q:=by omega
        have r3:s2.nx+141≠uid:=by omega
        have r4:s2.nx+387≠uid:=by omega
        have r5:s2.nx+711≠q:=by omega
        have r6:s2.nx+711≠uid:=by omega
        have u5:uid≠q:=by omega
        rcases hcv with ⟨hc0,rfl⟩ | ⟨hc0,id,rfl,c1',c2',c3',c4'⟩
        ·cases c with
         | none =>
           simp only [push_cast,seval,-Nat.reducePow,tvV,i6,i13,i14,i15,i16,i17,i74,i75,i76,← hru,u1,u2,u3,q1,q2,q3,iq,iu,hlru]
           refine aC3 ?_
           simp only [push_cast,seval,-Nat.reducePow,appN,i6,i13,i14,i15,i16,i17,i74,i75,i76,u1,u2,u3,u4,u5,q1,q2,q3,q4,r1,r2,r3,r4,r5,r6,iq,iu,hlru,← hru]
           refine ⟨by omega,by omega,r.length,by omega,d++[u],r,uid,.own (s2.nx+711) 1 0 (cu.length+1),by simp,rfl,by rw [hR]; simp,by simp,?_,?_,?_,by omega,by omega,by omega,?_⟩
           ·first | rfl | (rw [hc0]; rfl) | ((repeat (rw [aAd _ _ _ _ (by omega)])); rw [aAf]; try (first | rfl | (rw [hc0]; rfl)))
           ·rw [hC]
            refine .inr ⟨by simp,s2.nx+711,by simp,?_,by omega,by simp only; omega,by omega⟩
            simp only
            repeat rw [aAd _ _ _ _ (by omega)]
            rw [aAf]
            first | (simp [hc0]; done) | (simp [List.take_of_length_le]; done)
           ·rw [hR]
            repeat rw [aAd _ _ _ _ (by omega)]
            simpa using iu
           ·intro k hk
            repeat rw [aAd _ _ _ _ (by omega)]
            exact hold k hk
         | some z =>
           simp only [push_cast,seval,-Nat.reducePow,tvV,i6,i13,i14,i15,i16,i17,i74,i75,i76,← hru,u1,u2,u3,q1,q2,q3,iq,iu,hlru]
           refine aC3 ?_
           simp only [push_cast,seval,-Nat.reducePow,appN,i6,i13,i14,i15,i16,i17,i74,i75,i76,u1,u2,u3,u4,u5,q1,q2,q3,q4,r1,r2,r3,r4,r5,r6,iq,iu,hlru,← hru]
           refine ⟨by omega,by omega,by omega,r.length,by omega,d++[u],r,s2.nx+1087,.own (s2.nx+711) 1 0 (cu.length+1),by simp,rfl,by rw [hR]; simp,by simp,?_,?_,?_,by omega,by omega,by omega,?_⟩
           ·first | rfl | (rw [hc0]; rfl) | ((repeat (rw [aAd _ _ _ _ (by omega)])); rw [aAf]; try (first | rfl | (rw [hc0]; rfl)))
           ·rw [hC]
            refine .inr ⟨by simp,s2.nx+711,by simp,?_,by omega,by simp only; omega,by omega⟩
            simp only
            repeat rw [aAd _ _ _ _ (by omega)]
            rw [aAf]
            first | (simp [hc0]; done) | (simp [List.take_of_length_le]; done)
           ·rw [hR]
            rw [aAf,List.map_append,List.take_of_length_le (by rw [hlru]; exact Nat.le_refl _)]
            rfl
           ·intro k hk
            repeat rw [aAd _ _ _ _ (by omega)]
            exact hold k hk
        ·have v1:id≠s2.nx+141:=by omega
         have t1:s2.nx+141≠id:=by omega
         have t2:s2.nx+387≠id:=by omega
         have t3:s2.nx+711≠id:=by omega
         have v2:id≠s2.nx+264:=by omega
         have v3:id≠s2.nx+387:=by omega
         have v4:uid≠id:=fun e=>c4' e.symm
         have v5:q≠id:=by omega
         have hcln:(cu.map V.str).length=cu.length:=List.length_map ..
         cases c with
         | none =>
           simp only [push_cast,seval,-Nat.reducePow,tvV,i6,i13,i14,i15,i16,i17,i74,i75,i76,← hru,u1,u2,u3,q1,q2,q3,q4,u4,u5,r1,r2,r3,r4,r5,r6,t1,t2,t3,v1,v2,v3,v4,v5,c4',c1',iq,iu,hlru,hcln]
           refine ⟨by omega,by omega,r.length,by omega,d++[u],r,uid,.own (s2.nx+711) 1 0 (cu.length+1),by simp,rfl,by rw [hR]; simp,by simp,?_,?_,?_,by omega,by omega,by omega,?_⟩
           ·first | rfl | (rw [hc0]; rfl) | ((repeat (rw [aAd _ _ _ _ (by omega)])); rw [aAf]; try (first | rfl | (rw [hc0]; rfl)))
           ·rw [hC]
            refine .inr ⟨by simp,s2.nx+711,by simp,?_,by omega,by simp only; omega,by omega⟩
            simp only
            repeat rw [aAd _ _ _ _ (by omega)]
            rw [aAf]
            first | (simp [hc0]; done) | (simp [List.take_of_length_le]; done)
           ·rw [hR]
            repeat rw [aAd _ _ _ _ (by omega)]
            simpa using iu
           ·intro k hk
            repeat rw [aAd _ _ _ _ (by omega)]
            exact hold k hk
         | some z =>
           simp only [push_cast,seval,-Nat.reducePow,tvV,i6,i13,i14,i15,i16,i17,i74,i75,i76,← hru,u1,u2,u3,q1,q2,q3,q4,u4,u5,r1,r2,r3,r4,r5,r6,t1,t2,t3,v1,v2,v3,v4,v5,c4',c1',iq,iu,hlru,hcln]
           refine ⟨by omega,by omega,by omega,r.length,by omega,d++[u],r,s2.nx+1087,.own (s2.nx+711) 1 0 (cu.length+1),by simp,rfl,by rw [hR]; simp,by simp,?_,?_,?_,by omega,by omega,by omega,?_⟩
           ·first | rfl | (rw [hc0]; rfl) | ((repeat (rw [aAd _ _ _ _ (by omega)])); rw [aAf]; try (first | rfl | (rw [hc0]; rfl)))
           ·rw [hC]
            refine .inr ⟨by simp,s2.nx+711,by simp,?_,by omega,by simp only; omega,by omega⟩
            simp only
            repeat rw [aAd _ _ _ _ (by omega)]
            rw [aAf]
            first | (simp [hc0]; done) | (simp [List.take_of_length_le]; done)
           ·rw [hR]
            rw [aAf,List.map_append,List.take_of_length_le (by rw [hlru]; exact Nat.le_refl _)]
            rfl
           ·intro k hk
            repeat rw [aAd _ _ _ _ (by omega)]
            exact hold k hk
end Go.Ab
namespace Go.Ab
variable {P:Program} {F T:Nat→Nat}
structure RL (P:Program) (F T:Nat→Nat):Prop where
 h37:Is37 P F T
 h60:Is60 P F T
 h61:Is61 P F T
 h62:Is62 P F T
 h82:Is82 P F T
 h85:Is85 P F T
 h86:Is86 P F T
 h87:Is87 P F T
 h109:bA0 P F T
 h65:Is65 P F T
 h101:bHd P F T
 h25:Is25 P F T
 h50:Is50 P F T
 h81:Is81 P F T
theorem bM2 {c x:UInt8} {r t:List UInt8} (h:c≠x):(x::t).isPrefixOf (c::r)=false:=by
 have h2:(x==c)=false:=by rw [beq_eq_false_iff_ne]; exact fun e=>h e.symm
 simp [List.isPrefixOf,h2]
theorem t65L (H:RL P F T) (s:List UInt8) (i:Nat) (hi:i<s.length) (hs:s.length≤8192) (hl:Lit s):PTr P (F 65) [.str s,.int .i64 i] (spV i (aBf (s.drop i))):=by
 refine ptrC [] H.h65 (by simp) rfl ?_
 have hat0:∀ t:List UInt8,t.length≤20→PTr P (F 101) [.str s,.int .i64 i,.str t] (.bool (t.isPrefixOf (s.drop i))):=fun t ht=>t101 H.h101 s t i (by omega) hs (by omega)
 obtain ⟨c,r,hd⟩:∃ c r,s.drop i=c::r:=by
  cases hd:s.drop i with
  | nil=>have:=congrArg List.length hd; simp at this; omega
  | cons c r=>exact ⟨c,r,rfl⟩
 have hc:=hl.drop i c (by rw [hd]; simp)
 rw [hd,aG0 hc]
 rw [hd] at hat0
 obtain ⟨n60,n123,n125,n91,n93,n124⟩:=hc
 have hat:∀ (x:UInt8) (t:List UInt8),c≠x→t.length≤19→PTr P (F 101) [.str s,.int .i64 i,.str (x::t)] (.bool false):=fun x t hx ht=>by
  have:=hat0 (x::t) (by simp; omega)
  rwa [bM2 hx] at this
 simp only [c65,push_cast,seval,-Nat.reducePow]
 refine aAw (fun s1=>s1.env 0=.str s∧s1.env 1=.int .i64 i) ?_ ?_
 ·simp only [push_cast,seval,-Nat.reducePow]
  refine aAa (hat 60 [33,45,45] n60 (by simp)) (by simp only [push_cast,seval,-Nat.reducePow]) (by simp only [push_cast,seval,-Nat.reducePow]) ?_
  simp only [push_cast,seval,-Nat.reducePow]
 ·rintro s1 ⟨j0,j1⟩
  simp only [push_cast,seval,-Nat.reducePow,j0,j1]
  refine aAw (fun s1=>s1.env 0=.str s∧s1.env 1=.int .i64 i) ?_ ?_
  ·simp only [push_cast,seval,-Nat.reducePow,j0,j1]
   refine aAa (hat 60 [110,111,119,105,107,105,62] n60 (by simp)) (by simp only [push_cast,seval,-Nat.reducePow]) (by simp only [push_cast,seval,-Nat.reducePow]) ?_
   simp only [push_cast,seval,-Nat.reducePow,j0,j1]
  ·rintro s1 ⟨j0,j1⟩
   simp only [push_cast,seval,-Nat.reducePow,j0,j1]
   refine aAw (fun s1=>s1.env 0=.str s∧s1.env 1=.int .i64 i) ?_ ?_
   ·simp only [push_cast,seval,-Nat.reducePow,j0,j1]
    refine aAg (fun m s1=>∃ n,1≤n∧n≤4∧m=4-n∧s1.env 0=.str s∧s1.env 1=.int .i64 i∧s1.env 8=.int .i64 n) 3 ⟨1,by omega,by omega,by omega,?_⟩ fun m s1 hJ=>?_
    ·simp only [push_cast,seval,-Nat.reducePow,j0,j1]
    ·obtain ⟨n,hn1,hn4,rfl,i0,i1,i8⟩:=hJ
     by_cases hn:n≤3
     ·have h':((n:Nat):Int)≤3:=by omega
      simp only [push_cast,seval,-Nat.reducePow,i0,i1,i8,h']
      refine aAa (t25 H.h25 (n:Nat) false) (by simp only [push_cast,seval,-Nat.reducePow]) (by simp only [push_cast,seval,-Nat.reducePow]) ?_
      rw [aYk hn1 hn]
      simp only [push_cast,seval,-Nat.reducePow,i0,i1,i8,h']
      have hO:=bCt (k:=n)
      have hC:=bC7 (k:=n)
      have qO:tagO n=60::(aA9 (n:Nat)++[62]):=rfl
      have qC:tagC n=60::(47::(aA9 (n:Nat)++[62])):=rfl
      rw [qO] at hO
      rw [qC] at hC
      simp only [List.length_cons] at hO hC
      have pO:PTr P (F 101) [.str s,.int .i64 i,.str (tagO n)] (.bool false):=by rw [qO]; exact hat 60 _ n60 (by omega)
      have pC:PTr P (F 101) [.str s,.int .i64 i,.str (tagC n)] (.bool false):=by rw [qC]; exact hat 60 _ n60 (by simp only [List.length_cons]; omega)
      refine aAa pO (by simp only [push_cast,seval,-Nat.reducePow]) (by simp only [push_cast,seval,-Nat.reducePow]) ?_
      simp only [push_cast,seval,-Nat.reducePow,i0,i1,i8,h']
      refine aAa (t25 H.h25 (n:Nat) true) (by simp only [push_cast,seval,-Nat.reducePow]) (by simp only [push_cast,seval,-Nat.reducePow]) ?_
      rw [aYg hn1 hn]
      simp only [push_cast,seval,-Nat.reducePow,i0,i1,i8,h']
      refine aAa pC (by simp only [push_cast,seval,-Nat.reducePow]) (by simp only [push_cast,seval,-Nat.reducePow]) ?_
      simp only [push_cast,seval,-Nat.reducePow,i0,i1,i8,h']
      exact ⟨by omega,4-(n+1),by omega,n+1,by omega,by omega,rfl,by simp⟩
     ·have h':¬ ((n:Nat):Int)≤3:=by omega
      simp only [push_cast,seval,-Nat.reducePow,i0,i1,i8,h']
   ·rintro s1 ⟨j0,j1⟩
    simp only [push_cast,seval,-Nat.reducePow,j0,j1]
    refine aAw (fun s1=>s1.env 0=.str s∧c≠61∧c≠10) ?_ ?_
    ·simp only [push_cast,seval,-Nat.reducePow,j0,j1]
     refine aAa (hat 123 [123] n123 (by simp)) (by simp only [push_cast,seval,-Nat.reducePow]) (by simp only [push_cast,seval,-Nat.reducePow]) ?_
     simp only [push_cast,seval,-Nat.reducePow,j0,j1]
     refine aAa (hat 125 [125] n125 (by simp)) (by simp only [push_cast,seval,-Nat.reducePow]) (by simp only [push_cast,seval,-Nat.reducePow]) ?_
     simp only [push_cast,seval,-Nat.reducePow,j0,j1]
     refine aAa (hat 91 [91] n91 (by simp)) (by simp only [push_cast,seval,-Nat.reducePow]) (by simp only [push_cast,seval,-Nat.reducePow]) ?_
     simp only [push_cast,seval,-Nat.reducePow,j0,j1]
     refine aAa (hat 93 [93] n93 (by simp)) (by simp only [push_cast,seval,-Nat.reducePow]) (by simp only [push_cast,seval,-Nat.reducePow]) ?_
     simp only [push_cast,seval,-Nat.reducePow,j0,j1]
     refine aAa (hat 124 [] n124 (by simp)) (by simp only [push_cast,seval,-Nat.reducePow]) (by simp only [push_cast,seval,-Nat.reducePow]) ?_
     simp only [push_cast,seval,-Nat.reducePow,j0,j1]
     by_cases h61:c=61
     ·subst h61
      refine aAa (hat0 [61] (by simp)) (by simp only [push_cast,seval,-Nat.reducePow]) (by simp only [push_cast,seval,-Nat.reducePow]) ?_
      simp only [push_cast,seval,-Nat.reducePow,j0,j1,List.isPrefixOf,BEq.rfl,Bool.and_true]
      exact ⟨by omega,bMi (k:=8) (n:=1) rfl (by decide) rfl (by omega)⟩
     refine aAa (hat 61 [] h61 (by simp)) (by simp only [push_cast,seval,-Nat.reducePow]) (by simp only [push_cast,seval,-Nat.reducePow]) ?_
     simp only [push_cast,seval,-Nat.reducePow,j0,j1]
     by_cases h10:c=10
     ·subst h10
      refine aAa (hat0 [10] (by simp)) (by simp only [push_cast,seval,-Nat.reducePow]) (by simp only [push_cast,seval,-Nat.reducePow]) ?_
      simp only [push_cast,seval,-Nat.reducePow,j0,j1,List.isPrefixOf,BEq.rfl,Bool.and_true]
      exact ⟨by omega,bMi (k:=2) (n:=1) rfl (by decide) rfl (by omega)⟩
     refine aAa (hat 10 [] h10 (by simp)) (by simp only [push_cast,seval,-Nat.reducePow]) (by simp only [push_cast,seval,-Nat.reducePow]) ?_
     simp only [push_cast,seval,-Nat.reducePow,j0,j1]
     exact ⟨h61,h10⟩
    ·rintro s2 ⟨k0,h61,h10⟩
     simp only [push_cast,seval,-Nat.reducePow,k0]
     simp [view,spV,h61,h10]
theorem t50L (H:RL P F T) (s:List UInt8) (hs:s.length≤8192) (hl:Lit s):PTr P (F 50) [.str s] (.tup [.lst 3 (tvs (scan s)),.int .i64 0]):=by
 refine ptrC [] H.h50 (by simp) (by simp [V.imm,V.imms,aGr]) ?_
 have hs':¬ (8192:Int)<((s.length:Nat):Int):=by omega
 simp only [c50,push_cast,seval,-Nat.reducePow,hs']
 refine aAg (fun m s1=>∃ a t i n id,scan s=a++aF0 s n t i∧m=s.length-i∧t≤i∧i≤s.length∧s.length-i<n∧a.length≤2*i∧s1.env 0=.str s∧s1.env 5=.int .i64 t∧s1.env 6=.int .i64 i∧s1.env 4=.own id 3 0 a.length∧s1.L id=some (.vec (T 8) 3 (tvs a))∧id<s1.nx) s.length ⟨[],0,0,s.length+1,168,?_⟩ fun m s1 hJ=>?_
 ·simp only [push_cast,seval,-Nat.reducePow,scan,Nat.sub_zero]
  exact ⟨by omega,rfl⟩
 ·obtain ⟨a,t,i,n,id,hsc,rfl,hti,hil,hn,hal,j0,j5,j6,j4,jL,hid⟩:=hJ
  obtain ⟨n,rfl⟩:∃ k,n=k+1:=⟨n-1,by omega⟩
  have tk:List.take a.length (tvs a)=tvs a:=List.take_of_length_le (by simp [aCy])
  have view_fin:∀ (L:Heap) (j:Nat) (b:List Tok),L j=some (.vec (T 8) 3 (tvs b))→view L 3 (.tup [.own j 3 0 b.length,.int .i64 0])=.tup [.lst 3 (tvs b),.int .i64 0]:=fun L j b h=>by
   have:=aH7 (sz:=3) h (aGr b)
   rw [aCy] at this
   simp only [view,List.map_cons,List.map_nil] at this ⊢
   rw [this]
  by_cases hi:i<s.length
  ·have hi':((i:Nat):Int)<((s.length:Nat):Int):=by omega
   simp only [push_cast,seval,-Nat.reducePow,j0,j5,j6,hi',List.take_length]
   have hne:s.drop i≠[]:=by intro e; have:=congrArg List.length e; simp at this; omega
   refine aAa (t65L H s i hi hs hl) (by simp only [push_cast,seval,-Nat.reducePow]) (by simp only [push_cast,seval,-Nat.reducePow,spV]) ?_
   simp only [push_cast,seval,-Nat.reducePow,spV]
   rw [aF0,if_pos hi] at hsc
   generalize hq:aBf (s.drop i)=q at *
   refine aAk (fun h0=>?_) (fun h0=>?_)
   ·have h0':q.1=0:=by omega
    rw [if_pos h0'] at hsc
    simp only [push_cast,seval,-Nat.reducePow,j0,j5,j6]
    refine ⟨by omega,s.length-(i+1),by omega,a,t,i+1,n,id,hsc,rfl,by omega,by omega,by omega,by omega,rfl,by simp,j4,jL,by omega⟩
   ·have h0':q.1≠0:=by omega
    rw [if_neg h0'] at hsc
    have fs:=aFu (s:=s.drop i) (hl.drop i) (by rw [hq]; exact h0')
    rw [hq] at fs
    have hpos:1≤q.2:=by omega
    have hle:q.2≤s.length-i:=by omega
    have hif:(if q.1=0 then 0 else i+q.2)=i+q.2:=if_neg h0'
    by_cases ht:t<i
    ·have ht':((t:Nat):Int)<((i:Nat):Int):=by omega
     rw [if_pos ht] at hsc
     have hb:tvs a++[.agg [.int .i64 1,.int .i64 t,.int .i64 i]]=tvs (a++[⟨1,t,i⟩]):=by rw [aEt]; rfl
     have hb2:tvs (a++[⟨1,t,i⟩])++[.agg [.int .i64 q.1,.int .i64 i,.int .i64 ((i:Int)+(q.2:Nat))]]=tvs (a++[⟨1,t,i⟩]++[⟨q.1,i,i+q.2⟩]):=by rw [aEt (a++_)]; rfl
     have tk2:List.take (a.length+1) (tvs (a++[⟨1,t,i⟩]))=tvs (a++[⟨1,t,i⟩]):=List.take_of_length_le (by simp [aCy])
     have x1:s1.nx+258≠id:=by omega
     simp only [push_cast,seval,-Nat.reducePow,j0,j4,j5,j6,jL,ht',tk,hif,hb,hb2,tk2]
     refine ⟨by omega,by simp,by omega,s.length-(i+q.2),by omega,a++[⟨1,t,i⟩]++[⟨q.1,i,i+q.2⟩],i+q.2,i+q.2,n,s1.nx+321,by rw [hsc]; simp,rfl,by omega,by omega,by omega,by simp; omega,by simp,by simp,by simp,by simp only [aFf,if_true],by omega⟩
    ·have ht':¬ ((t:Nat):Int)<((i:Nat):Int):=by omega
     rw [if_neg ht,List.nil_append] at hsc
     have hb:tvs a++[.agg [.int .i64 q.1,.int .i64 i,.int .i64 ((i:Int)+(q.2:Nat))]]=tvs (a++[⟨q.1,i,i+q.2⟩]):=by rw [aEt]; rfl
     simp only [push_cast,seval,-Nat.reducePow,j0,j4,j5,j6,jL,ht',tk,hif,hb]
     refine ⟨by omega,s.length-(i+q.2),by omega,a++[⟨q.1,i,i+q.2⟩],i+q.2,i+q.2,n,s1.nx+265,by rw [hsc]; simp,rfl,by omega,by omega,by omega,by simp; omega,by simp,by simp,by simp,by simp only [aFf,if_true],by omega⟩
  ·have hi':¬ ((i:Nat):Int)<((s.length:Nat):Int):=by omega
   rw [aF0,if_neg hi] at hsc
   by_cases ht:t<s.length
   ·have ht':((t:Nat):Int)<((s.length:Nat):Int):=by omega
    rw [if_pos ht] at hsc
    have hb:tvs a++[.agg [.int .i64 1,.int .i64 t,.int .i64 s.length]]=tvs (a++[⟨1,t,s.length⟩]):=by rw [aEt]; rfl
    simp only [push_cast,seval,-Nat.reducePow,j0,j4,j5,j6,jL,hi',ht',tk,hb]
    refine ⟨by omega,?_⟩
    rw [hsc]
    have:=view_fin (upd (upd s1.L id none) (s1.nx+166) (some (Blk.vec (T 8) 3 (tvs (a++[⟨1,t,s.length⟩]))))) (s1.nx+166) (a++[⟨1,t,s.length⟩]) (by simp only [aFf,if_true])
    simpa using this
   ·have ht':¬ ((t:Nat):Int)<((s.length:Nat):Int):=by omega
    rw [if_neg ht,List.append_nil] at hsc
    simp only [push_cast,seval,-Nat.reducePow,j0,j4,j5,j6,jL,hi',ht',tk]
    rw [hsc]
    exact view_fin _ _ _ jL
theorem r82L (K:RL P F T) {L:Heap} {nx p:Nat} {els:List El} (h:RP T L nx p els) (hne:els≠[]) (n:Node) (ht:n.tq) (hb:pot els+n.bulk≤2^29) :
 ECall P (F 82) [.ptr p 0,.agg n.cs] L nx (fun _ L' nx'=>RD T L nx p (addS n els) L' nx'):=by
 cases els with
 | nil=>exact absurd rfl hne
 | cons e r=>exact t82 K.h82 K.h62 K.h85 K.h109 h n ht hb
theorem r86L (K:RL P F T) {L:Heap} {nx p:Nat} {els:List El} (h:RP T L nx p els) (hne:els≠[]) (q:List UInt8) (hb:pot els+(q.length+1)≤2^29) :
 ECall P (F 86) [.ptr p 0,.str q] L nx (fun _ L' nx'=>RD T L nx p (addS (tx q) els) L' nx'):=by
 refine aB1 [] K.h86 (by simp) ?_
 simp only [c86,push_cast,seval,-Nat.reducePow]
 refine aAe ((r82L K (h.grow (m:=nx+8) (by omega)) hne (tx q) (bPc q) (by simp [tx,Node.bulk,aAv,aCh]; omega)).le ?_) ?_
 ·simp only [tx,Node.cs,encs,encA,aBh,aDk,aJh,aMx,aFs,and_true]
 ·rintro v L1 n1 hr
  have:=(hr.down (nx:=nx) (by omega)).grow (m:=n1+8) (by omega)
  exact ⟨this.le,this⟩
theorem r87L (K:RL P F T) {L:Heap} {nx p:Nat} {e:El} {r:List El} (h:RP T L nx p (e::r)) (hne:e::r≠[]) (h3:e.kind≠3) (hb:pot (e::r)+2≤2^29) :
 ECall P (F 87) [.ptr p 0] L nx (fun _ L' nx'=>RD T L nx p (eqF (e::r)) L' nx'):=by
 have hp:=h.lt
 have hpl:=aM7 r
 simp only [pot] at hb
 have hpe:e.pot=30+2*e.count+aAv e.list+aCh e.args+5*e.args.length:=rfl
 have hq:=aHo (L:=L) hp
 refine aB1 [] K.h87 (by simp) ?_
 simp only [c87,push_cast,seval,-Nat.reducePow]
 refine aAe (t62 K.h62 (h.grow (m:=nx+49) (by omega)) (by omega)) ?_
 rintro v L1 n1 ⟨rfl,g1,g2⟩
 have k1:L1 p=L p:=g2 p (by omega)
 have hq1:∀ (n:Nat) (x:Option Blk) (M:Heap),upd M (n1+n) x p=M p:=fun n x M=>aAd _ _ _ _ (by omega)
 have hui:=fun (n:Nat) (x:Option Blk) (M:Heap)=>aAf M (n1+n) x
 have blk:∀ (M:Heap) (m:Nat),n1+2<m→M p=L1 p→(∀ b,b<n1→M b=L1 b)→RD T L nx p (e::r) M m:=fun M m a b d =>
  ⟨by rw [b,k1]; exact h.box,by omega,fun x ty cs hx hxp hLx hcs=>by rw [d x (by omega),g2 x (by omega)]; exact hLx⟩
 have hims:=aRc e
 have a1:∀ b,b<n1→∀ (n:Nat) (x:Option Blk) (M:Heap),upd M (n1+n) x b=M b:=fun b hb n x M=>aAd _ _ _ _ (by omega)
 simp only [push_cast,seval,-Nat.reducePow,El.rc]
 have ims2:V.imms [V.int IntKind.i64 ↑e.kind,V.int IntKind.i64 ↑e.tag,V.int IntKind.i64 ↑e.count,V.lst 5 (encs e.list),V.lst 3 (encA e.args)]=true:=hims
 have txt:∀ (M:Heap) (m:Nat),RD T L nx p (e::r) M m→(eqF (e::r)=addS (tx [61]) (e::r))→∀ (K0:V→Heap→Nat→Prop),(∀ v L2 n2,RD T L nx p (eqF (e::r)) L2 n2→K0 v L2 n2)→aKm P (F 86) [.ptr p 0,.str [61]] M m (Tg.mk (a:=K0)):=by
  intro M m z hz K0 hK
  refine aAe (r86L K (z.rp hp) hne [61] (by simp only [List.length_cons,List.length_nil,pot]; omega)) ?_
  intro v L2 n2 h2
  refine hK v L2 n2 ?_
  rw [hz]
  exact z.trans h2
 refine aAw (fun s1=>False) ?_ (fun s1 h=>h.elim)
 ·have zz:=blk (upd (upd L1 (n1+2) (some (Blk.box (T 11) [V.int IntKind.i64 0,V.int IntKind.i64 0,V.int IntKind.i64 0,V.nils,V.nils]))) (n1+2) (some (Blk.box (T 11) [V.int IntKind.i64 ↑e.kind,V.int IntKind.i64 ↑e.tag,V.int IntKind.i64 ↑e.count,V.lst 5 (encs e.list),V.lst 3 (encA e.args)])))
  have h3':((e.kind:Nat):Int)≠3:=by omega
  have hz:eqF (e::r)=addS (tx [61]) (e::r):=by simp [eqF,h3]
  simp only [push_cast,seval,-Nat.reducePow,h3',hui]
  exact txt _ _ (zz (n1+147) (by omega) (by simp only [hq1]) (fun b hb=>by simp only [a1 b hb])) hz _ (fun v2 L2 n2 h2=>by first | exact ⟨by have:=h2.le; omega,h2.grow (by omega)⟩ | (simp only [push_cast,seval,-Nat.reducePow]; exact ⟨by have:=h2.le; omega,h2.grow (by omega)⟩))
theorem r60L (K:RL P F T) {L:Heap} {nx p:Nat} {nl:List Node} (h:RP T L nx p [⟨0,0,0,nl,[]⟩]) (s:List UInt8) (hs:s.length≤8192) (t:Tok) (hg:LTok s t) (hb:pot [⟨0,0,0,nl,[]⟩]+(s.length+1)*4≤2^29) :
 ECall P (F 60) [.ptr p 0,.str s,.agg t.vs] L nx (fun _ L' nx'=>RD T L nx p (aC7 s t [⟨0,0,0,nl,[]⟩]) L' nx'):=by
 have hp:=h.lt
 obtain ⟨els,hels⟩:∃ els,els=[(⟨0,0,0,nl,[]⟩:El)]:=⟨_,rfl⟩
 have hne:els≠[]:=by rw [hels]; simp
 rw [← hels] at h hb ⊢
 have htl:=Tok.text_length hg.le
 have hle:=hg.le
 have hlt:=hg.lt
 have h81:=t81 K.h81 s t (by omega) hg.le hs
 have hq:=aHo (L:=L) hp
 have a1:∀ b,b<nx→∀ (n:Nat) (x:Option Blk) (M:Heap),upd M (nx+n) x b=M b:=fun b hb n x M=>aAd _ _ _ _ (by omega)
 have hui:=fun (n:Nat) (x:Option Blk) (M:Heap)=>aAf M (nx+n) x
 have z0:∀ (M:Heap) (q:Nat),nx≤q→(∀ b,b<nx→M b=L b)→RD T L nx p els M q:=fun M q a d =>
  ⟨by rw [d p hp]; exact h.box,a,fun x ty cs hx hxp hLx hcs=>by rw [d x hx]; exact hLx⟩
 have hk:=hg.kind
 obtain ⟨kd,fr,to⟩:=t
 have tk:aC7 s ⟨kd,fr,to⟩ els=aC7 s ⟨kd,fr,to⟩ els:=rfl
 refine aB1 [] K.h60 (by simp) ?_
 simp only [c60,push_cast,seval,-Nat.reducePow,Tok.vs]
 refine aAa h81 (by simp only [push_cast,seval,-Nat.reducePow,Tok.vs]) (by simp only [push_cast,seval,-Nat.reducePow]) ?_
 simp only at hk htl hle hlt
 rcases hk with rfl | rfl | rfl
 ·have e9:aC7 s ⟨1,fr,to⟩ els=addS (tx (Tok.text s ⟨1,fr,to⟩)) els:=by simp [aC7]
  rw [e9]
  simp only [push_cast,seval,-Nat.reducePow,hui]
  have z1:=z0 (upd L (nx+5) (some (Blk.box (T 8) [V.int IntKind.i64 1,V.int IntKind.i64 ↑fr,V.int IntKind.i64 ↑to]))) (nx+1834) (by omega) (fun b hb=>a1 b hb _ _ _)
  refine aAe (r86L K (z1.rp hp) hne (Tok.text s ⟨1,fr,to⟩) (by omega)) ?_
  intro v2 L2 n2 h2
  have z2:=z1.trans h2
  first | exact ⟨by have:=z2.le; omega,z2.grow (by omega)⟩ | (simp only [push_cast,seval,-Nat.reducePow]; exact ⟨by have:=z2.le; omega,z2.grow (by omega)⟩)
 ·have e9:aC7 s ⟨2,fr,to⟩ els=addS (tx (Tok.text s ⟨2,fr,to⟩)) els:=by simp [aC7]
  rw [e9]
  simp only [push_cast,seval,-Nat.reducePow,hui]
  have z1:=z0 (upd L (nx+5) (some (Blk.box (T 8) [V.int IntKind.i64 2,V.int IntKind.i64 ↑fr,V.int IntKind.i64 ↑to]))) (nx+1834) (by omega) (fun b hb=>a1 b hb _ _ _)
  refine aAe (r86L K (z1.rp hp) hne (Tok.text s ⟨2,fr,to⟩) (by omega)) ?_
  intro v2 L2 n2 h2
  have z2:=z1.trans h2
  first | exact ⟨by have:=z2.le; omega,z2.grow (by omega)⟩ | (simp only [push_cast,seval,-Nat.reducePow]; exact ⟨by have:=z2.le; omega,z2.grow (by omega)⟩)
 ·subst hels
  have e9:aC7 s ⟨8,fr,to⟩ [⟨0,0,0,nl,[]⟩]=eqF [⟨0,0,0,nl,[]⟩]:=by simp [aC7]
  rw [e9]
  simp only [push_cast,seval,-Nat.reducePow,hui]
  have z1:=z0 (upd L (nx+5) (some (Blk.box (T 8) [V.int IntKind.i64 8,V.int IntKind.i64 ↑fr,V.int IntKind.i64 ↑to]))) (nx+1441) (by omega) (fun b hb=>a1 b hb _ _ _)
  refine aAe (r87L K (z1.rp hp) (by simp) (by simp) (by omega)) ?_
  intro v2 L2 n2 h2
  have z2:=z1.trans h2
  first | exact ⟨by have:=z2.le; omega,z2.grow (by omega)⟩ | (simp only [push_cast,seval,-Nat.reducePow]; exact ⟨by have:=z2.le; omega,z2.grow (by omega)⟩)
theorem r61L (K:RL P F T) {L:Heap} {nx p:Nat} {e:El} (h:RP T L nx p [e]) :
 ECall P (F 61) [.ptr p 0,.int .i64 0] L nx (fun _ L' nx'=>RD T L nx p [e] L' nx'):=by
 have hp:=h.lt
 have hbx:=h.box
 have hlen:(rvs [e]).length=1:=aCu _
 refine aB1 [] K.h61 (by simp) ?_
 simp only [c61,push_cast,seval,-Nat.reducePow]
 refine aAg (fun m s=>m=0∧s.env 0=.ptr p 0∧s.env 1=.int .i64 0∧RD T L nx p [e] s.L s.nx) 0 ?_ fun m s hJ=>?_
 ·simp only [push_cast,seval,-Nat.reducePow]
  exact h.rd (by omega)
 ·obtain ⟨rfl,j0,j1,hrd⟩:=hJ
  have hbx:=hrd.box
  have hle:=hrd.le
  simp only [push_cast,seval,-Nat.reducePow,j0,j1,hbx,hlen]
  exact ⟨by omega,hrd.grow (by omega)⟩
theorem r37L (K:RL P F T) (s:List UInt8) (hs:s.length≤8192) (hlit:Lit s):PTr P (F 37) [.str s] (.tup [.lst 5 (encs (aBo s)),.int .i64 0]):=by
 obtain ⟨g1,g2⟩:=aIc hlit (s.length+1) 0 0 (Nat.le_refl _) (Nat.zero_le _)
 have g1:∀ t,t∈scan s→LTok s t:=g1
 have g2:lenT (scan s)≤s.length:=g2
 refine ptrC [] K.h37 (by simp) (by simp [V.imm,V.imms,aAr]) ?_
 simp only [c37,push_cast,seval,-Nat.reducePow]
 refine aAa (t50L K s hs hlit) (by simp only [push_cast,seval,-Nat.reducePow]) (by simp only [push_cast,seval,-Nat.reducePow,aGr]) ?_
 simp only [push_cast,seval,-Nat.reducePow]
 refine ⟨_,FzS.le 133 (T 9) [.lst 5 [.agg [.int .i64 0,.int .i64 0,.int .i64 0,.nils,.nils]]] [.lst 5 (rvs [root])] (by rfl) (by rw [bEl]; simp only [aBh,aDk,aFs,true_and,and_true,aJh,aUg,aMx]) (.refl _),?_⟩
 simp only [push_cast,seval,-Nat.reducePow]
 refine aAg (fun m s1=>∃ a rr,scan s=a++rr∧m=rr.length∧s1.env 0=.str s∧s1.env 4=.lst 3 (tvs (scan s))∧s1.env 6=.ptr 133 0∧s1.env 7=.int .i64 a.length∧RP T s1.L s1.nx 133 (runF s a [root])) (scan s).length ⟨[],scan s,?_⟩ fun m s1 hJ=>?_
 ·simp only [push_cast,seval,-Nat.reducePow]
  exact ⟨aAf _ _ _,by omega⟩
 ·obtain ⟨a,rr,hh,rfl,j0,j4,j6,j7,hrp⟩:=hJ
  have hga:∀ t,t∈a→LTok s t:=fun t ht=>g1 t (by rw [hh]; simp [ht])
  obtain ⟨nl,hrun,hpot⟩:=aN3 (s:=s) a [] hga
  have hrun:runF s a [root]=[⟨0,0,0,nl,[]⟩]:=hrun
  have hpr:pot [⟨0,0,0,[],[]⟩]=30:=rfl
  rw [hpr] at hpot
  rw [hrun] at hrp
  have hla:lenT a≤s.length:=by rw [hh,aHd] at g2; omega
  have er:pot [root]≤31:=by simp [pot,El.pot,root,aAv,aCh]
  have hlen:(tvs (scan s)).length=(scan s).length:=aCy _
  have hsl:(scan s).length≤2*8192+2∨True:=.inr trivial
  cases rr with
  | nil =>
    have hh':a=scan s:=by simpa using hh.symm
    subst hh'
    simp only [push_cast,seval,-Nat.reducePow,j0,j4,j6,j7,hlen]
    have h0:=r61L K (hrp.grow (m:=s1.nx+76) (by omega))
    refine aAe h0 ?_
    rintro v L1 n1 h1
    have hpf:aBo s=nl:=by simp only [aBo,finF,hrun,List.length_singleton,Nat.sub_self,aSf]
    simp only [push_cast,seval,-Nat.reducePow,j6]
    have h2:=(h1.rp (Nat.lt_of_lt_of_le hrp.lt (by omega))).grow (m:=n1+76) (by omega)
    refine aAe (t62 K.h62 h2 (by simp)) ?_
    rintro v2 L2 n2 ⟨rfl,g3,g4⟩
    simp only [push_cast,seval,-Nat.reducePow,El.rc]
    rw [hpf]
    exact aEs 3 _ (by simp [V.imm,V.imms,aAr])
  | cons t rr =>
    have hlt:((a.length:Nat):Int)<(((scan s).length:Nat):Int):=by rw [hh]; simp; omega
    have htg:LTok s t:=g1 t (by rw [hh]; simp)
    have hgt:(tvs (scan s)).getD a.length .junk=.agg t.vs:=by rw [hh]; exact bGc a t rr
    have hln:(scan s).length≤lenT (scan s):=aUp _ fun t ht=>(g1 t ht).lt
    have hal:(scan s).length=a.length+(rr.length+1):=by rw [hh]; simp
    simp only [push_cast,seval,-Nat.reducePow,j0,j4,j6,j7,hlen,hlt,hgt,Tok.vs]
    have h0:=r60L K (hrp.grow (m:=s1.nx+76) (by omega)) s hs t htg (by omega)
    refine ⟨by omega,aAe h0 ?_⟩
    rintro v L1 n1 h1
    simp only [push_cast,seval,-Nat.reducePow,j0,j4,j6,j7]
    refine ⟨⟨by omega,by omega⟩,rr.length,by omega,a++[t],rr,by rw [hh]; simp,rfl,by simp,?_⟩
    rw [aOq,hrun]
    exact (h1.rp (Nat.lt_of_lt_of_le hrp.lt (by omega))).grow (by omega)
end Go.Ab
namespace Go.Ab
variable {P:Program} {F T:Nat→Nat}
open Go.Lib
structure RMrgL (P:Program) (F T:Nat→Nat):Prop where
 h256:bHc P F T
 h272:bHk P F T
 h278:bKm P F T
 h286:bI9 P F T
 h287:bJ3 P F T
 h288:bKh P F T
 h290:bB7 P F T
theorem bIq (hf:bHk P F T) (s:List UInt8) (hs:s.length≤8192) (h159:aH6 P (F 159) s):PTr P (F 272) [.str s] (.tup [.lst 3 ((aAc s).map Un.v),.int .i64 0]):=by
 have h1:PTr _ _ _ _:=h159
 have hok:=aKo s
 have hpr:=aKt s
 have hcnt:=aNl s
 have hul:=aB2 s
 have hun:aAc s=⟨[],0,aHz s⟩::uGo s [] (aC9 s):=rfl
 have hlead:aHz s=s.take (nxF s (aC9 s)):=by
  unfold aHz nxF
  cases aC9 s with
  | nil=>simp
  | cons x r=>rfl
 refine ptrC [] hf (by simp) (by simp [V.imm,V.imms,aBd]) ?_
 simp only [c272,push_cast,seval,-Nat.reducePow]
 refine aAa h1 (by simp only [push_cast,seval,-Nat.reducePow]) (by simp only [push_cast,seval,-Nat.reducePow,aD6]) ?_
 obtain ⟨l,hl⟩:∃ l,l=aC9 s:=⟨_,rfl⟩
 rw [← hl] at hok hpr hcnt hun hlead ⊢
 have hlen:=aB9 l
 simp only [push_cast,seval,-Nat.reducePow,hlen]
 refine aAw (fun s1=>s1.env 0=.str s∧s1.env 4=.lst 5 (secV l)∧s1.env 6=.int .i64 (nxF s l)) ?_ ?_
 ·cases l with
  | nil=>simp only [push_cast,seval,-Nat.reducePow,nxF,hlen,List.length_nil]
  | cons x r =>
    have h0:(0:Int)<(r.length:Int)+1:=by omega
    have hg:(secV (x::r)).getD 0 .junk=.agg [.int .i64 x.lev,.str x.title,.int .i64 x.fr,.int .i64 x.bd,.int .i64 x.to]:=rfl
    simp only [push_cast,seval,-Nat.reducePow,h0,hlen,nxF,hg]
    omega
 rintro s1 ⟨j0,j4,j6⟩
 have hnx:=bGr hok
 simp only [push_cast,seval,-Nat.reducePow,j0,j4,j6]
 refine ⟨hnx,?_⟩
 refine aAg (fun m s1=>∃ d r out id,l=d++r∧m=r.length∧out++uGo s d r=aAc s∧s1.env 0=.str s∧s1.env 4=.lst 5 (secV l)∧s1.env 8=.int .i64 d.length∧s1.env 7=.own id 3 0 out.length∧s1.L id=some (.vec (T 28) 3 (out.map Un.v))∧id<s1.nx) l.length ⟨[],l,[⟨[],0,aHz s⟩],s1.nx+33,?_⟩ fun m s1 hJ=>?_
 ·simp only [push_cast,seval,-Nat.reducePow]
  exact ⟨hun.symm,j0,j4,by rw [← hlead]; rfl,by omega⟩
 ·obtain ⟨d,r,out,id,rfl,rfl,ho,j0,j4,j8,j7,jL,hid⟩:=hJ
  cases r with
  | nil =>
    have h':¬ ((d.length:Nat):Int)<((d++[]).length:Nat):=by simp
    rw [uGo,List.append_nil] at ho
    subst ho
    have hlu:=aCn (aAc s)
    have hlend:(secV d).length=d.length:=aB9 d
    simp only [push_cast,seval,-Nat.reducePow,j0,j4,j8,j7,hlen,hlend]
    have hv:view s1.L 2 (.own id 3 0 (aAc s).length)=.lst 3 ((aAc s).map Un.v):=by
     have:=aC4 (n:=1) (sz:=3) jL (aBd _)
     rwa [aCn] at this
    simp only [view] at hv ⊢
    simp only [List.map_cons,List.map_nil,hv,view]
  | cons x r =>
    have h':((d.length:Nat):Int)<((d++x::r).length:Nat):=by simp; omega
    have hdl:(d++x::r).length=d.length+(r.length+1):=by simp
    simp only [push_cast,seval,-Nat.reducePow,j0,j4,j8,j7,h',hlen]
    refine aAw (fun s2=>s2.env 0=.str s∧s2.env 4=.lst 5 (secV (d++x::r))∧s2.env 8=.int .i64 d.length∧s2.env 7=.own id 3 0 out.length∧s2.L id=some (.vec (T 28) 3 (out.map Un.v))∧id<s2.nx∧s2.env 9=.int .i64 (cntT d x.title)∧s2.env 10=.int .i64 s.length) ?_ ?_
    ·simp only [push_cast,seval,-Nat.reducePow]
     refine aAg (fun m s2=>∃ k,k≤d.length∧m=d.length-k∧s2.env 0=.str s∧s2.env 4=.lst 5 (secV (d++x::r))∧s2.env 8=.int .i64 d.length∧s2.env 7=.own id 3 0 out.length∧s2.L id=some (.vec (T 28) 3 (out.map Un.v))∧id<s2.nx∧s2.env 9=.int .i64 (cntT (d.take k) x.title)∧s2.env 10=.int .i64 s.length∧s2.env 11=.int .i64 k) d.length ⟨0,?_⟩ fun m s2 hJ=>?_
     ·simp only [push_cast,seval,-Nat.reducePow,j0,j4,j8,j7]
      exact ⟨by omega,jL,by omega,rfl⟩
     ·obtain ⟨k,hk,rfl,i0,i4,i8,i7,iL,iid,i9,i10,i11⟩:=hJ
      by_cases h:k<d.length
      ·have h1:((k:Nat):Int)<(d.length:Nat):=by omega
       have hgk:(secV (d++x::r)).getD k .junk=.agg [.int .i64 d[k].lev,.str d[k].title,.int .i64 d[k].fr,.int .i64 d[k].bd,.int .i64 d[k].to]:=by
        simp [secV,List.getD,List.getElem?_append_left,h,Sec.v]
       have htk:d.take (k+1)=d.take k++[d[k]]:=by rw [List.take_add_one]; simp [h]
       have hcl:cntT (d.take k) x.title≤d.length:=by
        unfold cntT
        exact Nat.le_trans (List.length_filter_le _ _) (by rw [List.length_take]; omega)
       simp only [push_cast,seval,-Nat.reducePow,i0,i4,i8,i7,i9,i10,i11,h1,hlen,hgk,aHe,Sec.v]
       refine ⟨by omega,aAk (fun e=>?_) (fun e=>?_)⟩
       ·have hn:cntT (d.take (k+1)) x.title=cntT (d.take k) x.title+1:=by rw [htk,aHs,if_pos e]
        simp only [push_cast,seval,-Nat.reducePow,i0,i4,i8,i7,i9,i10,i11]
        exact ⟨by omega,by omega,d.length-(k+1),by omega,k+1,by omega,rfl,iL,by omega,by rw [hn]; simp,by simp⟩
       ·have hn:cntT (d.take (k+1)) x.title=cntT (d.take k) x.title:=by rw [htk,aHs,if_neg e]; rfl
        simp only [push_cast,seval,-Nat.reducePow,i0,i4,i8,i7,i9,i10,i11]
        exact ⟨by omega,d.length-(k+1),by omega,k+1,by omega,rfl,iL,by omega,by rw [hn],by simp⟩
      ·have h1:¬ ((k:Nat):Int)<(d.length:Nat):=by omega
       obtain rfl:k=d.length:=by omega
       rw [List.take_length] at i9
       simp only [push_cast,seval,-Nat.reducePow,i0,i4,i8,i7,i9,i10,i11,h1]
       exact ⟨iL,by omega⟩
    rintro s2 ⟨i0,i4,i8,i7,iL,iid,i9,i10⟩
    have hx:=hok x (by simp)
    have x1:=hx.bd
    have x2:=hx.le
    have x3:=hx.to
    have hol2:out.length≤8193:=by have:=congrArg List.length ho; rw [List.length_append] at this; omega
    rw [uGo] at ho
    have e1:(((d.length:Nat):Int)+1).toNat=d.length+1:=by omega
    have hnle:x.fr≤nxF s r∧nxF s r≤s.length:=by
     cases r with
     | nil=>simp only [nxF]; omega
     | cons y r2 =>
       have y1:=(List.pairwise_cons.1 (List.pairwise_append.1 hpr).2.1).1 y (by simp)
       have y2:=hok y (by simp)
       have:=y2.bd
       have:=y2.le
       have:=y2.to
       simp only [nxF]
       omega
    simp only [push_cast,seval,-Nat.reducePow]
    refine aAw (fun s3=>s3.env 0=.str s∧s3.env 4=.lst 5 (secV (d++x::r))∧s3.env 8=.int .i64 d.length∧s3.env 7=.own id 3 0 out.length∧s3.L id=some (.vec (T 28) 3 (out.map Un.v))∧id<s3.nx∧s3.env 9=.int .i64 (cntT d x.title)∧s3.env 10=.int .i64 (nxF s r)) ?_ ?_
    ·cases r with
     | nil =>
       have q:¬ ((d.length:Nat):Int)+1<((d++[x]).length:Nat):=by simp
       simp only [push_cast,seval,-Nat.reducePow,i0,i4,i8,i7,i9,i10,hlen,q,nxF]
       exact ⟨by omega,iL,by omega⟩
     | cons y r2 =>
       have q:((d.length:Nat):Int)+1<((d++x::y::r2).length:Nat):=by simp; omega
       simp only [push_cast,seval,-Nat.reducePow,i0,i4,i8,i7,i9,i10,hlen,q,nxF,e1,aTr,Sec.v]
       exact ⟨by omega,by omega,by omega,by omega,iL,by omega⟩
    rintro s3 ⟨k0,k4,k8,k7,kL,kid,k9,k10⟩
    have hlo:=aCn out
    simp only [push_cast,seval,-Nat.reducePow,k0,k4,k8,k7,k9,k10,hlen,aHe,Sec.v,kL,hlo]
    refine ⟨by omega,by omega,by omega,by omega,r.length,by omega,d++[x],r,out++[⟨x.title,cntT d x.title,(s.take (nxF s r)).drop x.fr⟩],s3.nx+88,by simp,rfl,by rw [← ho]; simp,by simp,by simp,?_,by omega⟩
    rw [aAf,List.map_append,List.take_of_length_le (by rw [hlo]; exact Nat.le_refl _)]
    rfl
theorem bOv (K:RMrgL P F T) (b x y:List UInt8) (hb:b.length≤8192) (hx:x.length≤8192) (hy:y.length≤8192) (sb:aH6 P (F 159) b) (sx:aH6 P (F 159) x) (sy:aH6 P (F 159) y) (hlen:b.length+2*x.length+2*y.length+2≤8192) :
 PTr P (F 278) [.str b,.str x,.str y] (mrgV (aCw b x y)):=by
 have c0:=bIq K.h272 b hb sb
 have c1:=bIq K.h272 x hx sx
 have c2:=bIq K.h272 y hy sy
 have hml:=aOx b x y
 refine ptrC [] K.h278 (by simp) (by simp [mrgV,V.imm,V.imms,aUc]) ?_
 simp only [c278,push_cast,seval,-Nat.reducePow]
 refine aAa c0 (by simp only [push_cast,seval,-Nat.reducePow]) (by simp only [push_cast,seval,-Nat.reducePow,aBd]) ?_
 simp only [push_cast,seval,-Nat.reducePow]
 refine aAa c1 (by simp only [push_cast,seval,-Nat.reducePow]) (by simp only [push_cast,seval,-Nat.reducePow,aBd]) ?_
 simp only [push_cast,seval,-Nat.reducePow]
 refine aAa c2 (by simp only [push_cast,seval,-Nat.reducePow]) (by simp only [push_cast,seval,-Nat.reducePow,aBd]) ?_
 simp only [push_cast,seval,-Nat.reducePow]
 unfold aCw
 by_cases e1:x=b
 ·subst e1
  simp only [push_cast,seval,-Nat.reducePow]
  simp [view,mrgV,aNh,ln]
 by_cases e2:x=y
 ·subst e2
  simp only [push_cast,seval,-Nat.reducePow,e1]
  simp [view,mrgV,aNh,ln]
 by_cases e3:y=b
 ·subst e3
  simp only [push_cast,seval,-Nat.reducePow,e1,e2]
  simp [view,mrgV,aNh,ln,e1]
 simp only [push_cast,seval,-Nat.reducePow,e1,e2,e3]
 have ulb:=aB2 b
 have ulx:=aB2 x
 have uly:=aB2 y
 have ord:=t286 K.h286 K.h290 x y hx hy
 refine aAa ord (by simp only [push_cast,seval,-Nat.reducePow,aBd]) (by simp only [push_cast,seval,-Nat.reducePow,aBd]) ?_
 obtain ⟨l,hl⟩:∃ l,l=aBm (aAc x) (aAc y):=⟨_,rfl⟩
 rw [← hl]
 have hll:=aCn l
 obtain ⟨q,hq⟩:∃ q,q=1173:=⟨_,rfl⟩
 obtain ⟨ub,hub⟩:∃ ub,ub=aAc b:=⟨_,rfl⟩
 obtain ⟨ux,hux⟩:∃ ux,ux=aAc x:=⟨_,rfl⟩
 obtain ⟨uy,huy⟩:∃ uy,uy=aAc y:=⟨_,rfl⟩
 rw [← hub] at ulb ⊢
 rw [← hux] at ulx hl ⊢
 rw [← huy] at uly hl ⊢
 have z6:(6:Nat)≠q:=by omega
 have hodl:l.length≤20000:=by
  have h2:=(aEb (aAc y) (aAc x) ([],0) (List.pairwise_map.2 (aDj x))).2
  rw [hl]
  unfold aBm
  rw [← hux,← huy] at h2
  omega
 refine aAg (fun m s=>∃ d r uid cv,l=d++r∧m=r.length∧s.env 6=.ptr 6 0∧s.env 8=.lst 3 (ub.map Un.v)∧s.env 10=.lst 3 (ux.map Un.v)∧s.env 11=.lst 3 (uy.map Un.v)∧s.env 12=.ptr q 0∧s.env 13=.own uid 3 0 (aFb ub ux uy d).length∧s.env 14=.lst 3 (l.map Un.v)∧s.env 15=.int .i64 d.length ∧
  s.L 6=some (.box (T 27) [.str [],.nils])∧s.L q=some (.box (T 27) [.str [],cv])∧OwnS T s (q+1) uid cv (aCz ub ux uy d)∧s.L uid=some (.vec (T 28) 3 ((aFb ub ux uy d).map Un.v))∧q<uid∧uid<s.nx∧q<s.nx) l.length ⟨[],l,1419,.nils,?_⟩ fun m s2 hJ=>?_
 ·simp only [push_cast,seval,-Nat.reducePow]
  subst hq
  refine ⟨rfl,rfl,by rw [aAd _ _ _ _ (by omega),aAf],.inl ⟨rfl,rfl⟩,by rfl,by omega,by omega⟩
 ·obtain ⟨d,r,uid,cv,rfl,rfl,i6,i8,i10,i11,i12,i13,i14,i15,iL6,iq,hcv,iu,hqu,hun,hqn⟩:=hJ
  cases r with
  | nil =>
    rw [List.append_nil] at hl hodl i14
    have hld:=aCn d
    have h':¬ ((d.length:Nat):Int)<((d.length:Nat):Int):=by omega
    simp only [push_cast,seval,-Nat.reducePow,i6,i8,i10,i11,i12,i13,i14,i15,h',hld]
    subst hl
    have hmf:aCw b x y=(aD2 (aFb ub ux uy (aBm ux uy)),aCz ub ux uy (aBm ux uy)):=by
     unfold aCw
     rw [if_neg (by simp [e1,e2]),if_neg e3,hub,hux,huy]
    rw [hmf] at hml
    obtain ⟨ru,hru⟩:∃ ru,ru=aFb ub ux uy (aBm ux uy):=⟨_,rfl⟩
    obtain ⟨cu,hcu⟩:∃ cu,cu=aCz ub ux uy (aBm ux uy):=⟨_,rfl⟩
    have hrl:ru.length≤(aBm ux uy).length:=by
     rw [hru,aGs]
     have:=(aE6 ub ux uy ((aBm ux uy).map Un.nm)).2
     rwa [List.length_map] at this
    rw [← hru] at iu hml ⊢
    rw [← hcu] at hcv ⊢
    have hsum:=(aF9 ru).1
    simp only at hml
    have jn:=t256 K.h256 (ru.map Un.u3) (by rw [List.length_map]; omega) (by
     rw [List.map_map]
     show sumT ru≤_
     omega)
    rw [← un_v,List.map_map,show (ru.map ((fun u:U3=>u.2.2) ∘ Un.u3))=ru.map Un.text from rfl,← aJy] at jn
    have hvw:view s2.L 3 (.own uid 3 0 ru.length)=.lst 3 (ru.map Un.v):=by
     have:=aC4 (n:=2) (sz:=3) iu (aBd ru)
     rwa [aCn] at this
    rw [hvw]
    refine aF6 jn (by simp only [push_cast,seval,-Nat.reducePow,aBd]) rfl ?_
    have hml':¬ (8192:Int)<((aD2 ru).length:Nat):=by omega
    simp only [push_cast,seval,-Nat.reducePow,i12,iq,hml',i6,iL6,z6]
    refine ⟨by rw [hcv.one]; rfl,?_⟩
    have hvc:=hcv.view (upd (upd s2.L q (some (Blk.box (T 27) [V.str (aD2 ru),cv]))) 6 (some (Blk.box (T 27) [V.str (aD2 ru),cv]))) (fun k hk=>by rw [aAd _ _ _ _ (by omega),aAd _ _ _ _ (by omega)]) 0
    rw [if_neg (by simp)]
    simp only [view,List.map_cons,List.map_nil] at hvc ⊢
    rw [hvc]
    rfl
  | cons u r =>
    have h':((d.length:Nat):Int)<((d++u::r).length:Nat):=by simp; omega
    have hg:((d++u::r).map Un.v).getD d.length .junk=.agg [.str u.title,.int .i64 u.nth,.str u.text]:=by simp [List.getD,Un.v]
    have hdl:(d++u::r).length=d.length+(r.length+1):=by simp
    have x0:=t287 K.h287 K.h290 ub (by omega) u
    have x1:=t287 K.h287 K.h290 ux (by omega) u
    have x2:=t287 K.h287 K.h290 uy (by omega) u
    simp only [Un.v] at x0 x1 x2
    simp only [push_cast,seval,-Nat.reducePow,i6,i8,i10,i11,i12,i13,i14,i15,h',hll,hg]
    refine aAa x0 (by simp only [push_cast,seval,-Nat.reducePow,aBd]) (by simp only [push_cast,seval,-Nat.reducePow,aEo]) ?_
    simp only [push_cast,seval,-Nat.reducePow,i6,i8,i10,i11,i12,i13,i14,i15,h',hll,hg]
    refine aAa x1 (by simp only [push_cast,seval,-Nat.reducePow,aBd]) (by simp only [push_cast,seval,-Nat.reducePow,aEo]) ?_
    simp only [push_cast,seval,-Nat.reducePow,i6,i8,i10,i11,i12,i13,i14,i15,h',hll,hg]
    refine aAa x2 (by simp only [push_cast,seval,-Nat.reducePow,aBd]) (by simp only [push_cast,seval,-Nat.reducePow,aEo]) ?_
    refine aAa (t288 K.h288 _ _ _) (by simp only [push_cast,seval,-Nat.reducePow,aEo]) (by simp only [push_cast,seval,-Nat.reducePow,aEo]) ?_
    obtain ⟨co,hco⟩:∃ co,co=aBt (txtU ub u.nm) (txtU ux u.nm) (txtU uy u.nm):=⟨_,rfl⟩
    rw [← hco]
    obtain ⟨c,f⟩:=co
    have hR:aFb ub ux uy (d++[u])=aFb ub ux uy d++(c.map fun s=>(⟨u.title,u.nth,s⟩:Un)).toList:=by
     unfold aFb
     rw [List.filterMap_append,List.filterMap_cons,List.filterMap_nil,← hco]
     cases c <;> rfl
    have hC:aCz ub ux uy (d++[u])=aCz ub ux uy d++(if f then [u.title] else []):=by
     unfold aCz
     rw [List.filter_append,List.map_append,List.filter_cons,List.filter_nil,← hco]
     cases f <;> rfl
    obtain ⟨ru,hru⟩:∃ ru,ru=aFb ub ux uy d:=⟨_,rfl⟩
    obtain ⟨cu,hcu⟩:∃ cu,cu=aCz ub ux uy d:=⟨_,rfl⟩
    rw [← hru] at hR iu
    rw [← hcu] at hC hcv
    have hrl:ru.length≤20000:=by
     have h1:ru.length≤d.length:=by
      rw [hru,aGs]
      have:=(aE6 ub ux uy (d.map Un.nm)).2
      rwa [List.length_map] at this
     omega
    have hcl:cu.length≤20000:=by
     have h1:cu.length≤d.length:=by
      rw [hcu]
      unfold aCz
      rw [List.length_map]
      exact List.length_filter_le _ _
     omega
    have hlru:=aCn ru
    cases f with
    | false =>
      cases c with
      | none =>
        simp only [push_cast,seval,-Nat.reducePow,tvV,i6,i8,i10,i11,i12,i13,i14,i15,hll,hg,← hru]
        refine ⟨by omega,r.length,by omega,d++[u],r,uid,cv,by simp,rfl,by rw [hR]; simp,by simp,iL6,?_,?_,?_,by omega,by omega,by omega⟩
        ·repeat rw [aAd _ _ _ _ (by omega)]
         exact iq
        ·rw [hC]
         simp only [Bool.false_eq_true,if_false,List.append_nil]
         exact hcv.mono (fun k h1 h2 h3=>by simp only; repeat rw [aAd _ _ _ _ (by omega)]) (by simp only; omega) (.inl rfl)
        ·rw [hR]
         repeat rw [aAd _ _ _ _ (by omega)]
         simpa using iu
      | some z =>
        have u1:uid≠s2.nx+145:=by omega
        simp only [push_cast,seval,-Nat.reducePow,tvV,i6,i8,i10,i11,i12,i13,i14,i15,hll,hg,← hru,u1,iu,hlru]
        refine ⟨by omega,by omega,r.length,by omega,d++[u],r,s2.nx+635,cv,by simp,rfl,by rw [hR]; simp,by simp,?_,?_,?_,?_,by omega,by omega,by omega⟩
        ·repeat rw [aAd _ _ _ _ (by omega)]
         exact iL6
        ·repeat rw [aAd _ _ _ _ (by omega)]
         exact iq
        ·rw [hC]
         simp only [Bool.false_eq_true,if_false,List.append_nil]
         exact hcv.mono (fun k h1 h2 h3=>by simp only; repeat rw [aAd _ _ _ _ (by omega)]) (by simp only; omega) (.inr (by omega))
        ·rw [hR,aAf,List.map_append,List.take_of_length_le (by rw [hlru]; exact Nat.le_refl _)]
         rfl
    | true =>
      have u1:uid≠s2.nx+145:=by omega
      have q1:q≠s2.nx+145:=by omega
      have r1:s2.nx+145≠q:=by omega
      have r3:s2.nx+145≠uid:=by omega
      have u5:uid≠q:=by omega
      have u4:uid≠s2.nx+487:=by omega
      have q4:q≠s2.nx+487:=by omega
      have r5:s2.nx+487≠q:=by omega
      have r6:s2.nx+487≠uid:=by omega
      rcases hcv with ⟨hc0,rfl⟩ | ⟨hc0,id,rfl,c1',c2',c3',c4'⟩
      ·cases c with
       | none =>
         simp only [push_cast,seval,-Nat.reducePow,tvV,i6,i8,i10,i11,i12,i13,i14,i15,hll,hg,← hru,u1,q1,r1,r3,u5,u4,q4,r5,r6,iq,iu,hlru]
         refine aC3 ?_
         simp only [push_cast,seval,-Nat.reducePow,appN,i6,i8,i10,i11,i12,i13,i14,i15,hll,hg,u1,q1,r1,r3,u5,u4,q4,r5,r6,iq,iu,hlru,← hru]
         refine ⟨by omega,by omega,r.length,by omega,d++[u],r,uid,.own (s2.nx+487) 1 0 (cu.length+1),by simp,rfl,by rw [hR]; simp,by simp,?_,?_,?_,?_,by omega,by omega,by omega⟩
         ·repeat rw [aAd _ _ _ _ (by omega)]
          exact iL6
         ·first | rfl | (rw [hc0]; rfl) | ((repeat (rw [aAd _ _ _ _ (by omega)])); rw [aAf]; try (first | rfl | (rw [hc0]; rfl)))
         ·rw [hC]
          refine .inr ⟨by simp,s2.nx+487,by simp,?_,by omega,by simp only; omega,by omega⟩
          simp only
          repeat rw [aAd _ _ _ _ (by omega)]
          rw [aAf]
          first | (simp [hc0]; done) | (simp [List.take_of_length_le]; done)
         ·rw [hR]
          repeat rw [aAd _ _ _ _ (by omega)]
          simpa using iu
       | some z =>
         simp only [push_cast,seval,-Nat.reducePow,tvV,i6,i8,i10,i11,i12,i13,i14,i15,hll,hg,← hru,u1,q1,r1,r3,u5,u4,q4,r5,r6,iq,iu,hlru]
         refine aC3 ?_
         simp only [push_cast,seval,-Nat.reducePow,appN,i6,i8,i10,i11,i12,i13,i14,i15,hll,hg,u1,q1,r1,r3,u5,u4,q4,r5,r6,iq,iu,hlru,← hru]
         refine ⟨by omega,by omega,by omega,r.length,by omega,d++[u],r,s2.nx+764,.own (s2.nx+487) 1 0 (cu.length+1),by simp,rfl,by rw [hR]; simp,by simp,?_,?_,?_,?_,by omega,by omega,by omega⟩
         ·repeat rw [aAd _ _ _ _ (by omega)]
          exact iL6
         ·first | rfl | (rw [hc0]; rfl) | ((repeat (rw [aAd _ _ _ _ (by omega)])); rw [aAf]; try (first | rfl | (rw [hc0]; rfl)))
         ·rw [hC]
          refine .inr ⟨by simp,s2.nx+487,by simp,?_,by omega,by simp only; omega,by omega⟩
          simp only
          repeat rw [aAd _ _ _ _ (by omega)]
          rw [aAf]
          first | (simp [hc0]; done) | (simp [List.take_of_length_le]; done)
         ·rw [hR,aAf,List.map_append,List.take_of_length_le (by rw [hlru]; exact Nat.le_refl _)]
          rfl
      ·have v1:id≠s2.nx+145:=by omega
       have t1:s2.nx+145≠id:=by omega
       have t3:s2.nx+487≠id:=by omega
       have v4:uid≠id:=fun e=>c4' e.symm
       have v5:q≠id:=by omega
       have hcln:(cu.map V.str).length=cu.length:=List.length_map ..
       cases c with
       | none =>
         simp only [push_cast,seval,-Nat.reducePow,tvV,i6,i8,i10,i11,i12,i13,i14,i15,hll,hg,← hru,u1,q1,r1,r3,u5,u4,q4,r5,r6,v1,t1,t3,v4,v5,c4',c1',iq,iu,hlru,hcln]
         refine ⟨by omega,by omega,r.length,by omega,d++[u],r,uid,.own (s2.nx+487) 1 0 (cu.length+1),by simp,rfl,by rw [hR]; simp,by simp,?_,?_,?_,?_,by omega,by omega,by omega⟩
         ·repeat rw [aAd _ _ _ _ (by omega)]
          exact iL6
         ·first | rfl | (rw [hc0]; rfl) | ((repeat (rw [aAd _ _ _ _ (by omega)])); rw [aAf]; try (first | rfl | (rw [hc0]; rfl)))
         ·rw [hC]
          refine .inr ⟨by simp,s2.nx+487,by simp,?_,by omega,by simp only; omega,by omega⟩
          simp only
          repeat rw [aAd _ _ _ _ (by omega)]
          rw [aAf]
          first | (simp [hc0]; done) | (simp [List.take_of_length_le]; done)
         ·rw [hR]
          repeat rw [aAd _ _ _ _ (by omega)]
          simpa using iu
       | some z =>
         simp only [push_cast,seval,-Nat.reducePow,tvV,i6,i8,i10,i11,i12,i13,i14,i15,hll,hg,← hru,u1,q1,r1,r3,u5,u4,q4,r5,r6,v1,t1,t3,v4,v5,c4',c1',iq,iu,hlru,hcln]
         refine ⟨by omega,by omega,by omega,r.length,by omega,d++[u],r,s2.nx+764,.own (s2.nx+487) 1 0 (cu.length+1),by simp,rfl,by rw [hR]; simp,by simp,?_,?_,?_,?_,by omega,by omega,by omega⟩
         ·repeat rw [aAd _ _ _ _ (by omega)]
          exact iL6
         ·first | rfl | (rw [hc0]; rfl) | ((repeat (rw [aAd _ _ _ _ (by omega)])); rw [aAf]; try (first | rfl | (rw [hc0]; rfl)))
         ·rw [hC]
          refine .inr ⟨by simp,s2.nx+487,by simp,?_,by omega,by simp only; omega,by omega⟩
          simp only
          repeat rw [aAd _ _ _ _ (by omega)]
          rw [aAf]
          first | (simp [hc0]; done) | (simp [List.take_of_length_le]; done)
         ·rw [hR,aAf,List.map_append,List.take_of_length_le (by rw [hlru]; exact Nat.le_refl _)]
          rfl
end Go.Ab
