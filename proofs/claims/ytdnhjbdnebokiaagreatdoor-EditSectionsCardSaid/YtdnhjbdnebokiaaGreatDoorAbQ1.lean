/- Several texts of one kind, merged. No condition. -/
import Derived.Test.YtdnhjbdnebokiaaGreatDoorAbP3
import Derived.Test.YtdnhjbdnebokiaaGreatDoorAbZ4
import Derived.Test.YtdnhjbdnebokiaaGreatDoorAbM1
set_option linter.unusedSimpArgs false
set_option linter.unusedVariables false
namespace Go.Ab
variable {P:Program} {F T:Nat→Nat}
def Lit (s:List UInt8):Prop:=∀ b,b∈s→b≠60∧b≠123∧b≠125∧b≠91∧b≠93∧b≠124
theorem Lit.drop {s:List UInt8} (h:Lit s) (i:Nat):Lit (s.drop i):=fun b hb=>h b (List.mem_of_mem_drop hb)
theorem aHu {c:UInt8} {r:List UInt8} (h:c≠60∧c≠123∧c≠125∧c≠91∧c≠93∧c≠124):aBa (c::r)=if c=61 then (8,1) else if c=10 then (2,1) else (0,0):=by
 obtain ⟨h1,h2,h3,h4,h5,h6⟩:=h
 simp only [aBa,h1,h2,h3,h4,h5,h6,if_false]
theorem aGo {s:List UInt8} (hl:Lit s) (h:(aBa s).1≠0):((aBa s).1=8∨(aBa s).1=2)∧(aBa s).2=1∧1≤s.length:=by
 cases s with
 | nil=>simp [aBa] at h
 | cons c r =>
   rw [aHu (hl c (by simp))] at h ⊢
   split at h
   ·rename_i e; rw [if_pos e]; simp
   ·rename_i e; rw [if_neg e]
    split at h
    ·rename_i e; rw [if_pos e]; simp
    ·exact absurd rfl h
theorem t67L (hf:Is67 P F T) (s:List UInt8) (hs:s.length≤8192) (hne:s≠[]) (hl:Lit s):PTr P (F 67) [.str s] (aU6 (aBa s)):=by
 refine ptrC [] hf (by simp) rfl ?_
 obtain ⟨c,r,rfl⟩:∃ c r,s=c::r:=by cases s with | nil=>exact absurd rfl hne | cons c r=>exact ⟨c,r,rfl⟩
 have hc:=hl c (by simp)
 rw [aHu hc]
 obtain ⟨h60,h123,h125,h91,h93,h124⟩:=hc
 simp only [c67,push_cast,seval,-Nat.reducePow]
 refine ⟨by omega,?_⟩
 refine aAk (fun h=>absurd (aLu (b:=60) h) h60) (fun _=>?_)
 simp only [push_cast,seval,-Nat.reducePow]
 refine aAk (fun h=>absurd (aLu (b:=123) h) h123) (fun _=>?_)
 simp only [push_cast,seval,-Nat.reducePow]
 refine aAk (fun h=>absurd (aLu (b:=125) h) h125) (fun _=>?_)
 simp only [push_cast,seval,-Nat.reducePow]
 refine aAk (fun h=>absurd (aLu (b:=91) h) h91) (fun _=>?_)
 simp only [push_cast,seval,-Nat.reducePow]
 refine aAk (fun h=>absurd (aLu (b:=93) h) h93) (fun _=>?_)
 simp only [push_cast,seval,-Nat.reducePow]
 refine aAk (fun h=>absurd (aLu (b:=124) h) h124) (fun _=>?_)
 simp only [push_cast,seval,-Nat.reducePow]
 by_cases h61:c=61
 ·subst h61
  refine aAk (fun h=>?_) (fun h=>absurd rfl h)
  simp only [push_cast,seval,-Nat.reducePow]
  simp [view,aU6]
 refine aAk (fun h=>absurd (aLu (b:=61) h) h61) (fun _=>?_)
 simp only [push_cast,seval,-Nat.reducePow]
 by_cases h10:c=10
 ·subst h10
  refine aAk (fun h=>?_) (fun h=>absurd rfl h)
  simp only [push_cast,seval,-Nat.reducePow]
  simp [view,aU6]
 refine aAk (fun h=>absurd (aLu (b:=10) h) h10) (fun _=>?_)
 simp only [push_cast,seval,-Nat.reducePow]
 simp [view,aU6,h61,h10]
theorem t56L (h56:Is56 P F T) (h67:Is67 P F T) (s:List UInt8) (hs:s.length≤8192) (hl:Lit s):PTr P (F 56) [.str s] (.tup [.lst 3 (tvs (scan s)),.int .i64 0]):=by
 refine ptrC [] h56 (by simp) (by simp [V.imm,V.imms,aM8]) ?_
 have hs':¬ (8192:Int)<((s.length:Nat):Int):=by omega
 simp only [c56,push_cast,seval,-Nat.reducePow,hs']
 refine aAl (fun m s1=>∃ a t i n id,scan s=a++aGq s n t i∧m=s.length-i∧t≤i∧i≤s.length∧s.length-i<n∧a.length≤2*i∧s1.env 0=.str s∧s1.env 5=.int .i64 t∧s1.env 6=.int .i64 i∧s1.env 4=.own id 3 0 a.length∧s1.L id=some (.vec (T 8) 3 (tvs a))∧id<s1.nx) s.length ⟨[],0,0,s.length+1,183,?_⟩ fun m s1 hJ=>?_
 ·simp only [push_cast,seval,-Nat.reducePow,scan,Nat.sub_zero]
  exact ⟨by omega,rfl⟩
 ·obtain ⟨a,t,i,n,id,hsc,rfl,hti,hil,hn,hal,j0,j5,j6,j4,jL,hid⟩:=hJ
  obtain ⟨n,rfl⟩:∃ k,n=k+1:=⟨n-1,by omega⟩
  have tk:List.take a.length (tvs a)=tvs a:=List.take_of_length_le (by simp [aFv])
  have view_fin:∀ (L:Heap) (j:Nat) (b:List Tok),L j=some (.vec (T 8) 3 (tvs b))→view L 3 (.tup [.own j 3 0 b.length,.int .i64 0])=.tup [.lst 3 (tvs b),.int .i64 0]:=fun L j b h=>by
   have:=aJ1 (sz:=3) h (aM8 b)
   rw [aFv] at this
   simp only [view,List.map_cons,List.map_nil] at this ⊢
   rw [this]
  by_cases hi:i<s.length
  ·have hi':((i:Nat):Int)<((s.length:Nat):Int):=by omega
   simp only [push_cast,seval,-Nat.reducePow,j0,j5,j6,hi',List.take_length]
   refine ⟨by omega,?_⟩
   have hne:s.drop i≠[]:=by intro e; have:=congrArg List.length e; simp at this; omega
   refine aAh (t67L h67 (s.drop i) (by simp; omega) hne (hl.drop i)) (by simp only [push_cast,seval,-Nat.reducePow]) (by simp only [push_cast,seval,-Nat.reducePow,aU6]) ?_
   simp only [push_cast,seval,-Nat.reducePow,aU6]
   rw [aGq,if_pos hi] at hsc
   generalize hq:aBa (s.drop i)=q at *
   refine aAk (fun h0=>?_) (fun h0=>?_)
   ·have h0':q.1=0:=by omega
    rw [if_pos h0'] at hsc
    simp only [push_cast,seval,-Nat.reducePow,j0,j5,j6]
    refine ⟨by omega,s.length-(i+1),by omega,a,t,i+1,n,id,hsc,rfl,by omega,by omega,by omega,by omega,rfl,by simp,j4,jL,by omega⟩
   ·have h0':q.1≠0:=by omega
    rw [if_neg h0'] at hsc
    have fs:=aGo (s:=s.drop i) (hl.drop i) (by rw [hq]; exact h0')
    rw [hq] at fs
    have hpos:1≤q.2:=by omega
    have hle:q.2≤s.length-i:=by omega
    by_cases ht:t<i
    ·have ht':((t:Nat):Int)<((i:Nat):Int):=by omega
     rw [if_pos ht] at hsc
     have hb:tvs a++[.agg [.int .i64 1,.int .i64 t,.int .i64 i]]=tvs (a++[⟨1,t,i⟩]):=by rw [aIx]; rfl
     have hb2:tvs (a++[⟨1,t,i⟩])++[.agg [.int .i64 q.1,.int .i64 i,.int .i64 ((i:Int)+(q.2:Nat))]]=tvs (a++[⟨1,t,i⟩]++[⟨q.1,i,i+q.2⟩]):=by rw [aIx (a++_)]; rfl
     have tk2:List.take (a.length+1) (tvs (a++[⟨1,t,i⟩]))=tvs (a++[⟨1,t,i⟩]):=List.take_of_length_le (by simp [aFv])
     have x1:s1.nx+279≠id:=by omega
     simp only [push_cast,seval,-Nat.reducePow,j0,j4,j5,j6,jL,ht',tk,hb,hb2,tk2]
     refine ⟨by omega,by omega,by simp,by omega,by omega,s.length-(i+q.2),by omega,a++[⟨1,t,i⟩]++[⟨q.1,i,i+q.2⟩],i+q.2,i+q.2,n,s1.nx+349,by rw [hsc]; simp,rfl,by omega,by omega,by omega,by simp; omega,by simp,by simp,by simp,by simp only [aF7,if_true],by omega⟩
    ·have ht':¬ ((t:Nat):Int)<((i:Nat):Int):=by omega
     rw [if_neg ht,List.nil_append] at hsc
     have hb:tvs a++[.agg [.int .i64 q.1,.int .i64 i,.int .i64 ((i:Int)+(q.2:Nat))]]=tvs (a++[⟨q.1,i,i+q.2⟩]):=by rw [aIx]; rfl
     simp only [push_cast,seval,-Nat.reducePow,j0,j4,j5,j6,jL,ht',tk,hb]
     refine ⟨by omega,by omega,by omega,s.length-(i+q.2),by omega,a++[⟨q.1,i,i+q.2⟩],i+q.2,i+q.2,n,s1.nx+288,by rw [hsc]; simp,rfl,by omega,by omega,by omega,by simp; omega,by simp,by simp,by simp,by simp only [aF7,if_true],by omega⟩
  ·have hi':¬ ((i:Nat):Int)<((s.length:Nat):Int):=by omega
   rw [aGq,if_neg hi] at hsc
   by_cases ht:t<s.length
   ·have ht':((t:Nat):Int)<((s.length:Nat):Int):=by omega
    rw [if_pos ht] at hsc
    have hb:tvs a++[.agg [.int .i64 1,.int .i64 t,.int .i64 s.length]]=tvs (a++[⟨1,t,s.length⟩]):=by rw [aIx]; rfl
    simp only [push_cast,seval,-Nat.reducePow,j0,j4,j5,j6,jL,hi',ht',tk,hb]
    refine ⟨by omega,?_⟩
    rw [hsc]
    have:=view_fin (upd (upd s1.L id none) (s1.nx+181) (some (Blk.vec (T 8) 3 (tvs (a++[⟨1,t,s.length⟩]))))) (s1.nx+181) (a++[⟨1,t,s.length⟩]) (by simp only [aF7,if_true])
    simpa using this
   ·have ht':¬ ((t:Nat):Int)<((s.length:Nat):Int):=by omega
    rw [if_neg ht,List.append_nil] at hsc
    simp only [push_cast,seval,-Nat.reducePow,j0,j4,j5,j6,jL,hi',ht',tk]
    rw [hsc]
    exact view_fin _ _ _ jL
structure LTok (s:List UInt8) (t:Tok):Prop where
 kind:t.kind=1∨t.kind=2∨t.kind=8
 lt:t.fr<t.to
 le:t.to≤s.length
theorem aJn {s:List UInt8} (hl:Lit s):∀ (n t i:Nat),t≤i→i≤s.length→(∀ x,x∈aGq s n t i→LTok s x)∧lenT (aGq s n t i)≤s.length-t
 | 0,t,i,_,_=>by simp [aGq,lenT]
 | n+1,t,i,h1,h2=>by
   rw [aGq]
   split
   ·rename_i hi
    split
    ·obtain ⟨g1,g2⟩:=aJn hl n t (i+1) (by omega) (by omega)
     exact ⟨g1,g2⟩
    ·rename_i hf
     have fs:=aGo (hl.drop i) hf
     have hpos:1≤(aBa (s.drop i)).2:=by omega
     have hle:(aBa (s.drop i)).2≤s.length-i:=by omega
     have hk:(aBa (s.drop i)).1=1∨(aBa (s.drop i)).1=2∨(aBa (s.drop i)).1=8:=by omega
     obtain ⟨g1,g2⟩:=aJn hl n (i+(aBa (s.drop i)).2) (i+(aBa (s.drop i)).2) (Nat.le_refl _) (by omega)
     constructor
     ·intro x hx
      simp only [List.mem_append,List.mem_cons] at hx
      rcases hx with hx | rfl | hx
      ·split at hx
       ·simp only [List.mem_singleton] at hx
        subst hx
        exact ⟨.inl rfl,by assumption,by simp; omega⟩
       ·simp at hx
      ·exact ⟨hk,by simp; omega,by simp; omega⟩
      ·exact g1 x hx
     ·rw [aJb]
      have:lenT (if t<i then [⟨1,t,i⟩] else [])=i-t:=by
       split
       ·simp [lenT]
       ·simp [lenT]; omega
      rw [this]
      simp only [lenT]
      omega
   ·split
    ·rename_i hi ht
     constructor
     ·intro x hx
      simp only [List.mem_singleton] at hx
      subst hx
      exact ⟨.inl rfl,ht,Nat.le_refl _⟩
     ·simp [lenT]
    ·simp [lenT]
theorem aX8 {s:List UInt8} {t:Tok} (h:LTok s t) (l:List Node):∃ y:List UInt8,y.length≤t.to-t.fr∧aEl s t [⟨0,0,0,l,[]⟩]=addS (tx y) [⟨0,0,0,l,[]⟩]:=by
 have h1:=h.lt
 rcases h.kind with hk | hk | hk
 ·exact ⟨t.text s,by rw [Tok.text_length h.le]; exact Nat.le_refl _,by simp [aEl,hk]⟩
 ·exact ⟨t.text s,by rw [Tok.text_length h.le]; exact Nat.le_refl _,by simp [aEl,hk]⟩
 ·exact ⟨[61],by simp; omega,by simp [aEl,hk,eqF]⟩
theorem aSe {s:List UInt8}:∀ (a:List Tok) (l:List Node),(∀ t,t∈a→LTok s t)→∃ l2,runF s a [⟨0,0,0,l,[]⟩]=[⟨0,0,0,l2,[]⟩]∧pot [⟨0,0,0,l2,[]⟩]≤pot [⟨0,0,0,l,[]⟩]+2*lenT a
 | [],l,_=>⟨l,rfl,by simp [lenT]⟩
 | t::r,l,h=>by
   have ht:=h t (by simp)
   obtain ⟨y,hy,he⟩:=aX8 ht l
   have hp:=bD7 (tx y) [⟨0,0,0,l,[]⟩]
   have e:addS (tx y) [⟨0,0,0,l,[]⟩]=[⟨0,0,0,addN (tx y) l,[]⟩]:=by simp [addS,El.add]
   rw [e] at hp he
   obtain ⟨l2,h1,h2⟩:=aSe r (addN (tx y) l) fun x hx=>h x (by simp [hx])
   refine ⟨l2,by rw [← h1,← he]; rfl,?_⟩
   have hb:(tx y).bulk=y.length+1:=by simp [tx,Node.bulk,aA4,aCl]
   have:=ht.lt
   simp only [lenT]
   omega
theorem t57L (h57:Is57 P F T) (h59:Is59 P F T) (h68:Is68 P F T) (h69:Is69 P F T) (h74:Is74 P F T) (h106:aT8 P F T) {L:Heap} {nx:Nat} {f:List Nat} {p:Nat} {els:List El} (hs:Stk T false L nx f p els) (s:List UInt8) (t:Tok) (hsl:s.length≤8192) (hw:LTok s t) (hb:pot els≤2^27) (hne:els≠[]) :
 ECall P (F 57) [.ptr p 0,.str s,.agg t.vs] L nx (Did T L nx f p (aEl s t els)):=by
 have htl:=Tok.text_length hw.le
 have hlt:=hw.lt
 have hle:=hw.le
 have hkd:=hw.kind
 refine aCo [] h57 (by simp) ?_
 simp only [c57,push_cast,seval,-Nat.reducePow,Tok.vs]
 refine aAh (t68 h68 s t (by omega) hw.le hsl) (by simp only [push_cast,seval,-Nat.reducePow,Tok.vs]) (by simp only [push_cast,seval,-Nat.reducePow]) ?_
 generalize hx:t.text s=x at *
 have st2:∀ (M:Heap) (m:Nat),nx≤m→(∀ i,i<nx→M i=L i)→Stk T false M m f p els:=fun M m h1 h2=>hs.grow h1 h2
 simp only [push_cast,seval,-Nat.reducePow]
 have fin:∀ (M:Heap) (m:Nat) (els':List El) (r r':V) (L':Heap) (n1 n2:Nat),nx≤m→(∀ i,i<nx→M i=L i)→Did T M m f p els' r L' n1→aEl s t els=els'→n1≤n2→nx≤n2∧Did T L nx f p (aEl s t els) r' L' n2:=by
  rintro M m els' r r' L' n1 n2 h1 h2 ⟨f',k1,k2⟩ rfl h4
  have:=k2.le
  exact ⟨by omega,f',k1.grow h4 fun _ _=>rfl,(Stp.grow h1 h2).trans (k2.trans (Stp.grow h4 fun _ _=>rfl))⟩
 have hxl:x.length≤8192:=by omega
 have up2:∀ (a:Option Blk) (i:Nat),i<nx→upd L (nx+5) a i=L i:=fun a i hi=>fr1 hi
 refine aAk (fun h=>?_) (fun c1=>?_)
 ·have hk:t.kind=1:=by omega
  simp only [push_cast,seval,-Nat.reducePow]
  refine aAc (t69 h69 h59 h106 (st2 _ _ (by omega) (fun i hi=>fr1 hi)) x (by omega) hne) ?_
  intro r L' n1 h
  exact fin _ _ _ _ _ _ _ _ (by omega) (fun i hi=>fr1 hi) h (by simp [aEl,hk,hx]) (by omega)
 simp only [push_cast,seval,-Nat.reducePow]
 refine aAk (fun h=>?_) (fun c2=>?_)
 ·have hk:t.kind=2:=by omega
  simp only [push_cast,seval,-Nat.reducePow]
  refine aAc (t69 h69 h59 h106 (st2 _ _ (by omega) (fun i hi=>fr1 hi)) x (by omega) hne) ?_
  intro r L' n1 h
  exact fin _ _ _ _ _ _ _ _ (by omega) (fun i hi=>fr1 hi) h (by simp [aEl,hk,hx]) (by omega)
 simp only [push_cast,seval,-Nat.reducePow]
 refine aAk (fun h=>?_) (fun c3=>?_)
 ·exfalso; omega
 simp only [push_cast,seval,-Nat.reducePow]
 refine aAk (fun h=>?_) (fun c4=>?_)
 ·exfalso; omega
 simp only [push_cast,seval,-Nat.reducePow]
 refine aAk (fun h=>?_) (fun c5=>?_)
 ·exfalso; omega
 simp only [push_cast,seval,-Nat.reducePow]
 refine aAk (fun h=>?_) (fun c6=>?_)
 ·exfalso; omega
 simp only [push_cast,seval,-Nat.reducePow]
 refine aAk (fun h=>?_) (fun c7=>?_)
 ·exfalso; omega
 simp only [push_cast,seval,-Nat.reducePow]
 refine aAk (fun h=>?_) (fun c8=>?_)
 ·exfalso; omega
 simp only [push_cast,seval,-Nat.reducePow]
 refine aAk (fun h=>?_) (fun c9=>?_)
 ·have hk:t.kind=8:=by omega
  simp only [push_cast,seval,-Nat.reducePow]
  refine aAc (t74 h74 h69 h59 h106 (st2 _ _ (by omega) (fun i hi=>fr1 hi)) (by omega) hne) ?_
  intro r L' n1 h
  exact fin _ _ _ _ _ _ _ _ (by omega) (fun i hi=>fr1 hi) h (by simp [aEl,hk,hx]) (by omega)
 exfalso; omega
theorem aYx (hf:Is36 P F T) (h56:Is56 P F T) (h67:Is67 P F T) (h57:Is57 P F T) (h59:Is59 P F T) (h68:Is68 P F T) (h69:Is69 P F T) (h74:Is74 P F T) (h106:aT8 P F T) (s:List UInt8) (hs:s.length≤8192) (hlit:Lit s) :
 PTr P (F 36) [.str s] (.tup [ln 5 (vns (aCn s)),.int .i64 0]):=by
 obtain ⟨hw,hl⟩:=aJn hlit (s.length+1) 0 0 (Nat.le_refl _) (Nat.zero_le _)
 have hw:∀ t,t∈scan s→LTok s t:=hw
 have hl:lenT (scan s)≤s.length:=hl
 refine ptrC [] hf (by simp) (by simp [V.imm,V.imms,aF8,aBn]) ?_
 simp only [c36,push_cast,seval,-Nat.reducePow]
 refine aAh (t56L h56 h67 s hs hlit) (by simp only [push_cast,seval,-Nat.reducePow]) (by simp only [push_cast,seval,-Nat.reducePow]) ?_
 simp only [push_cast,seval,-Nat.reducePow]
 refine aAl (fun m s1=>∃ a r f p,scan s=a++r∧m=r.length∧s1.env 0=.str s∧s1.env 6=.ptr p 0∧s1.env 22=.lst 3 (tvs (a++r))∧s1.env 23=.int .i64 (a++r).length∧s1.env 24=.int .i64 a.length∧Stk T false s1.L s1.nx f p (runF s a [root])) (scan s).length ⟨[],scan s,[159,157,156],159,?_⟩ fun m s1 hJ=>?_
 ·simp only [push_cast,seval,-Nat.reducePow,bCd]
  refine ⟨157,[],[⟨root,156,none,none,none⟩],⟨rfl,rfl,rfl,rfl,?_,?_,by simp,?_,?_⟩⟩
  ·intro h hh
   simp only [List.mem_singleton] at hh
   subst hh
   exact ⟨rfl,fun i hi=>by simp at hi,fun i hi=>by simp at hi,fun i hi=>by simp at hi⟩
  ·intro h hh
   simp at hh
   subst hh
   exact ⟨fun _=>rfl,fun _=>rfl,fun _=>rfl⟩
  ·intro i hi
   simp at hi
   omega
  ·intro e he
   simp only [List.mem_singleton] at he
   subst he
   exact ⟨fun h=>by simp [root] at h,fun n hn=>by simp [root] at hn,fun a ha=>by simp [root] at ha⟩
 ·obtain ⟨a,r,f,p,ha,rfl,j0,j6,j22,j23,j24,hst⟩:=hJ
  have hwa:∀ t,t∈a→LTok s t:=fun t ht=>hw t (by rw [ha]; simp [ht])
  obtain ⟨nl,hrun,hpot⟩:=aSe (s:=s) a [] hwa
  have hrun:runF s a [root]=[⟨0,0,0,nl,[]⟩]:=hrun
  have hpr:pot [⟨0,0,0,[],[]⟩]=30:=rfl
  rw [hpr] at hpot
  have hla:lenT a+lenT r≤8192:=by rw [ha,aJb] at hl; omega
  have lenle:∀ l:List Tok,(∀ t,t∈l→LTok s t)→l.length≤lenT l:=by
   intro l
   induction l with
   | nil=>intro _; simp
   | cons t l ih =>
     intro h
     have:=ih fun x hx=>h x (by simp [hx])
     have:=(h t (by simp)).lt
     simp only [lenT,List.length_cons]; omega
  have hal:=lenle a hwa
  cases r with
  | nil =>
    simp only [List.append_nil] at ha j22 j23
    simp only [push_cast,seval,-Nat.reducePow,j0,j6,j22,j23,j24]
    refine aAl (fun m s2=>m=0∧s2.env 6=.ptr p 0∧∃ f,Stk T false s2.L s2.nx f p [⟨0,0,0,nl,[]⟩]) 0 ?_ fun m s2 hJ=>?_
    ·rw [hrun] at hst
     simp only [push_cast,seval,-Nat.reducePow,j6]
     exact ⟨f,hst.grow (by omega) fun _ _=>rfl⟩
    ·obtain ⟨rfl,i6,f2,st2⟩:=hJ
     obtain ⟨sid,jk,h,t,hp,r9⟩:=st2.split (by simp)
     have hel:t.length=0:=by
      have h1:([⟨0,0,0,nl,[]⟩]:List El).length=t.length+1:=by rw [r9]; simp
      rw [List.length_singleton] at h1
      omega
     have hbx:=hp.box
     simp only [List.length_cons] at hbx
     simp only [push_cast,seval,-Nat.reducePow,i6,hbx]
     refine aAk (fun hc=>?_) (fun hc=>?_)
     ·exfalso; omega
     ·have ht:t=[]:=List.eq_nil_of_length_eq_zero hel
      subst ht
      have hels:[(⟨0,0,0,nl,[]⟩:El)]=[h.e]:=r9
      simp only [push_cast,seval,-Nat.reducePow,i6]
      refine aAc (t59 h59 (hp.grow (by omega)) (by simp)) ?_
      rintro _ L3 n3 ⟨rfl,rfl,hn3⟩
      have hat:=hp.at_ h (by simp)
      have hlv:h.live:=hp.live h (by simp)
      have hbe:=hat.box
      simp only [EH.cells] at hbe
      have hres:aCn s=h.e.list:=by
       simp only [aCn,ha,finF,hrun,hels,List.length_singleton,Nat.sub_self,aVz]
      simp only [push_cast,seval,-Nat.reducePow,i6,hbe]
      rw [hres]
      rcases aC7 h.li with hv | ⟨i,hv⟩
      ·have:=hlv.li hv
       simp [EH.lv,hv,lvO,this,vns,ln,view]
      ·obtain ⟨q1,q2⟩:=hat.li i hv
       have e1:h.lv=.own i 5 0 (vns h.e.list).length:=by simp [EH.lv,hv,lvO,aBd]
       have e2:vns h.e.list≠[]:=fun e=>q2 (by cases hl:h.e.list with | nil=>rfl | cons x r=>rw [hl] at e; simp [vns] at e)
       simp only [e1,view,List.map_cons,List.map_nil,bG8 e2]
       have:=aJ1 (sz:=5) q1 (aBn _)
       simp only [view] at this ⊢
       rw [this]
  | cons x r =>
    have hwx:LTok s x:=hw x (by rw [ha]; simp)
    simp only [lenT] at hla
    simp only [push_cast,seval,-Nat.reducePow,j0,j6,j22,j23,j24,Tok.vs]
    refine aAc (t57L h57 h59 h68 h69 h74 h106 (hst.grow (by omega) fun i hi=>(fr1 hi).trans (fr1 hi)) s x hs hwx (by rw [hrun]; omega) (by rw [hrun]; simp)) ?_
    rintro _ L3 n3 ⟨f3,k1,k2⟩
    simp only [push_cast,seval,-Nat.reducePow,j0,j6,j22,j23,j24]
    refine ⟨by omega,r.length,by omega,a++[x],r,f3,p,by rw [ha]; simp,rfl,rfl,by simp,by simp,by simp,?_⟩
    rw [aX7]
    exact k1.grow (by omega) fun _ _=>rfl
end Go.Ab
namespace Go.Ab
variable {P:Program} {F T:Nat→Nat}
def ptx (x:List UInt8):List Node:=if x=[] then [] else [tx x]
theorem bA0 (x y:List UInt8):addN (tx y) (ptx x)=ptx (x++y):=by
 have e:∀ l,addN (tx y) l=if y=[] then l else aB7 l y:=fun l=>rfl
 rw [e]
 by_cases hy:y=[]
 ·subst hy; simp
 ·rw [if_neg hy]
  unfold ptx
  by_cases hx:x=[]
  ·subst hx; simp [aB7,hy,tx]
  ·simp [aB7,hx,tx]
theorem aMs {s:List UInt8} {a b:Nat} (h:a≤b) (hb:b≤s.length):s.take a++(s.take b).drop a=s.take b:=by
 have h1:(s.take b).take a=s.take a:=by rw [List.take_take,Nat.min_eq_left h]
 rw [← h1,List.take_append_drop]
theorem aH4 {s:List UInt8} {t:Tok} (hk:t.kind=1∨t.kind=2∨(t.kind=8∧t.text s=[61])) (x:List UInt8):aEl s t [⟨0,0,0,ptx x,[]⟩]=[⟨0,0,0,ptx (x++t.text s),[]⟩]:=by
 have e:addS (tx (t.text s)) [⟨0,0,0,ptx x,[]⟩]=[⟨0,0,0,ptx (x++t.text s),[]⟩]:=by simp [addS,El.add,bA0]
 rw [← e]
 rcases hk with hk | hk | ⟨hk,h8⟩
 ·simp [aEl,hk]
 ·simp [aEl,hk]
 ·simp [aEl,hk,eqF,h8]
theorem bPf {s:List UInt8} (hl:Lit s) {i:Nat} (h:(aBa (s.drop i)).1=8):Tok.text s ⟨8,i,i+1⟩=[61]:=by
 cases hd:s.drop i with
 | nil=>rw [hd] at h; simp [aBa] at h
 | cons c r =>
   have hc:=hl.drop i c (by rw [hd]; simp)
   rw [hd,aHu hc] at h
   by_cases h61:c=61
   ·subst h61
    simp only [Tok.text]
    rw [List.drop_take,hd]
    simp
   ·rw [if_neg h61] at h
    split at h <;> simp at h
theorem aQl {s:List UInt8} (hl:Lit s):∀ (n t i:Nat),t≤i→i≤s.length→s.length-i<n→runF s (aGq s n t i) [⟨0,0,0,ptx (s.take t),[]⟩]=[⟨0,0,0,ptx s,[]⟩]
 | 0,t,i,_,_,h=>by omega
 | n+1,t,i,h1,h2,h3=>by
   rw [aGq]
   have e1:∀ a b:Nat,t≤a→Tok.text s ⟨1,t,a⟩=(s.take a).drop t:=fun _ _ _=>rfl
   by_cases hi:i<s.length
   ·rw [if_pos hi]
    by_cases h0:(aBa (s.drop i)).1=0
    ·rw [if_pos h0]
     exact aQl hl n t (i+1) (by omega) (by omega) (by omega)
    ·rw [if_neg h0]
     obtain ⟨fk,fl,fp⟩:=aGo (hl.drop i) h0
     rw [fl]
     have ih:=aQl hl n (i+1) (i+1) (Nat.le_refl _) (by omega) (by omega)
     have step:∀ st,runF s ((⟨(aBa (s.drop i)).1,i,i+1⟩:Tok)::aGq s n (i+1) (i+1)) st=runF s (aGq s n (i+1) (i+1)) (aEl s ⟨(aBa (s.drop i)).1,i,i+1⟩ st):=fun st=>rfl
     have h8:(aBa (s.drop i)).1=8→Tok.text s ⟨(aBa (s.drop i)).1,i,i+1⟩=[61]:=fun h=>by rw [h]; exact bPf hl h
     have hq:aEl s ⟨(aBa (s.drop i)).1,i,i+1⟩ [⟨0,0,0,ptx (s.take i),[]⟩]=[⟨0,0,0,ptx (s.take (i+1)),[]⟩]:=by
      rw [aH4 (fk.elim (fun fk=>.inr (.inr ⟨fk,h8 fk⟩)) fun fk=>.inr (.inl fk))]
      simp only [Tok.text]
      rw [aMs (by omega) (by omega)]
     by_cases ht:t<i
     ·rw [if_pos ht]
      show runF s ((⟨(aBa (s.drop i)).1,i,i+1⟩:Tok)::aGq s n (i+1) (i+1)) (aEl s ⟨1,t,i⟩ [⟨0,0,0,ptx (s.take t),[]⟩])=_
      rw [aH4 (.inl rfl)]
      simp only [Tok.text]
      rw [aMs (by omega) (by omega),step,hq]
      exact ih
     ·have:t=i:=by omega
      subst this
      rw [if_neg ht,List.nil_append,step,hq]
      exact ih
   ·rw [if_neg hi]
    have hil:i=s.length:=by omega
    by_cases ht:t<s.length
    ·rw [if_pos ht]
     show aEl s ⟨1,t,s.length⟩ [⟨0,0,0,ptx (s.take t),[]⟩]=_
     rw [aH4 (.inl rfl)]
     simp only [Tok.text]
     rw [aMs (by omega) (by omega),List.take_length]
    ·rw [if_neg ht,List.take_of_length_le (by omega)]
     rfl
theorem aHr {s:List UInt8} (hl:Lit s):aCn s=ptx s:=by
 have h:=aQl hl (s.length+1) 0 0 (Nat.le_refl _) (Nat.zero_le _) (by omega)
 have h2:runF s (scan s) [root]=[⟨0,0,0,ptx s,[]⟩]:=h
 simp only [aCn,finF,h2,List.length_singleton,Nat.sub_self,aVz]
theorem bCp {s:List UInt8} (hl:Lit s):aA4 (aCn s)≤s.length+1:=by
 rw [aHr hl]
 unfold ptx
 split
 ·simp [aA4]
 ·simp [aA4,tx,Node.bulk,aCl]
theorem aSk {s:List UInt8} (hl:Lit s):srcs (aCn s)=s:=by
 rw [aHr hl]
 unfold ptx
 split
 ·rename_i h; subst h; simp [srcs]
 ·simp [srcs,tx,Node.src]
theorem bMr (hf:bIu P F T) (S:StrC0 P F) (h137:bF7 P F T) (s:List UInt8) (hs:s.length≤8192) (hlit:Lit s) (h136:PTr P (F 136) [.str s] (.tup [.lst 1 (bls (aA2 (aCn s))),.int .i64 0])):PTr P (F 124) [.str s] (.tup [.lst 5 (secV (aE9 s)),.int .i64 0]):=by
 obtain ⟨p,hp⟩:∃ p,p=aA2 (aCn s):=⟨_,rfl⟩
 have hpl:p.length=s.length:=by rw [hp,aHj,aSk hlit]
 have hsec:aE9 s=toF (rawF s p (s.length+1) 0):=by rw [aE9,hp]
 have hcnt:=aH3 s p (s.length+1) 0
 rw [← hp] at h136
 refine ptrC [] hf (by simp) (by simp [V.imm,V.imms,aF5]) ?_
 simp only [c124,push_cast,seval,-Nat.reducePow]
 refine aAh h136 (by simp only [push_cast,seval,-Nat.reducePow]) (by simp only [push_cast,seval,-Nat.reducePow,aM9]) ?_
 simp only [push_cast,seval,-Nat.reducePow]
 refine aAl (fun m s1=>∃ a i id,rawF s p (s.length+1) 0=a++rawF s p (s.length+1) i∧m=s.length-i∧i≤s.length∧a.length≤i∧s1.env 0=.str s∧s1.env 4=.lst 1 (bls p)∧s1.env 7=.int .i64 i∧s1.env 6=.own id 5 0 a.length∧s1.L id=some (.vec (T 14) 5 (secV a))∧id<s1.nx) s.length ⟨[],0,476,?_⟩ fun m s1 hJ=>?_
 ·simp only [push_cast,seval,-Nat.reducePow]
  exact ⟨by omega,rfl⟩
 ·obtain ⟨a,i,id,hra,rfl,hi,hal,j0,j4,j7,j6,jL,hid⟩:=hJ
  by_cases hlt:i<s.length
  ·have hlt':((i:Nat):Int)<((s.length:Nat):Int):=by omega
   have hle:=aEt (s:=s) (i:=i) hi
   rw [aYq s p hlt] at hra
   have hib:=S.ib (s.drop i)
   rw [aW3,aSr hi] at hib
   have hsq:=bBi s p i
   have hEd:aB2 s i=i+aCm (s.drop i):=rfl
   generalize aB2 s i=E at *
   obtain ⟨N,hN⟩:∃ N,N=min (E+1) s.length:=⟨_,rfl⟩
   rw [← hN] at hra hsq
   simp only [push_cast,seval,-Nat.reducePow,j0,j4,j7,j6,jL,hlt',List.take_length]
   refine aLc (fun s2=>s2.env 0=.str s∧s2.env 4=.lst 1 (bls p)∧s2.env 7=.int .i64 i∧s2.env 6=.own id 5 0 a.length∧s2.L id=some (.vec (T 14) 5 (secV a))∧id<s2.nx∧s2.env 8=.int .i64 E∧s2.env 9=.int .i64 N) ?_ ?_
   ·simp only [push_cast,seval,-Nat.reducePow,j0,j4,j7,j6,jL,List.take_length]
    repeat refine And.intro (by omega) ?_
    by_cases hl:aCm (s.drop i)<s.length-i
    ·rw [if_pos hl] at hib
     have hl0:(0:Int)≤((aCm (s.drop i):Nat):Int):=by omega
     have e1:((i:Nat):Int)+((aCm (s.drop i):Nat):Int)=(E:Nat):=by omega
     have e2:((E:Nat):Int)+1=(N:Nat):=by omega
     refine aAh hib (by simp only [push_cast,seval,-Nat.reducePow]) (by simp only [push_cast,seval,-Nat.reducePow]) ?_
     simp only [push_cast,seval,-Nat.reducePow,j0,j4,j7,j6,jL,hl0,e1,e2]
     omega
    ·rw [if_neg hl] at hib
     have hle2:=aMu (s.drop i)
     rw [aSr hi] at hle2
     obtain rfl:E=s.length:=by omega
     obtain rfl:N=s.length:=by omega
     refine aAh hib (by simp only [push_cast,seval,-Nat.reducePow]) (by simp only [push_cast,seval,-Nat.reducePow]) ?_
     simp only [push_cast,seval,-Nat.reducePow,j0,j4,j7,j6,jL]
     omega
   ·rintro s2 ⟨k0,k4,k7,k6,kL,kid,k8,k9⟩
    simp only [push_cast,seval,-Nat.reducePow,k0,k4,k7,k6,kL,k8,k9]
    refine aAl (fun m s3=>∃ j,i≤j∧j≤E∧m=E-j∧s3.env 0=.str s∧s3.env 4=.lst 1 (bls p)∧s3.env 7=.int .i64 i∧s3.env 6=.own id 5 0 a.length∧s3.L id=some (.vec (T 14) 5 (secV a))∧id<s3.nx∧s3.env 8=.int .i64 (E)∧s3.env 9=.int .i64 N∧s3.env 12=.int .i64 j∧s3.env 11=.bool (allP p i j)) (E-i) ⟨i,?_⟩ fun m s3 hJ=>?_
    ·simp only [push_cast,seval,-Nat.reducePow,k0,k4,k7,k6,kL,k8,k9,bCi]
     omega
    ·obtain ⟨j,hij,hje,rfl,g0,g4,g7,g6,gL,gid,g8,g9,g12,g11⟩:=hJ
     by_cases hj:j<E
     ·have hj':((j:Nat):Int)<((E:Nat):Int):=by omega
      have hjp:j<p.length:=by omega
      have hat:=bK7 p hjp
      have hjb:j<(bls p).length:=by rw [aQ2]; exact hjp
      have hst:=aZe p hij hjp
      cases hb:allP p i j with
      | true =>
        rw [hb,Bool.true_and] at hst
        rw [hb] at g11
        simp only [push_cast,seval,-Nat.reducePow,g0,g4,g7,g6,gL,g8,g9,g12,g11,hj',hat]
        exact ⟨hjb,by omega,E-(j+1),by omega,j+1,by omega,by omega,rfl,by omega,by simp,by rw [hst]⟩
      | false =>
        rw [hb,Bool.false_and] at hst
        rw [hb] at g11
        simp only [push_cast,seval,-Nat.reducePow,g0,g4,g7,g6,gL,g8,g9,g12,g11,hj']
        exact ⟨by omega,E-(j+1),by omega,j+1,by omega,by omega,rfl,by omega,by simp,by rw [hst]⟩
     ·have hj':¬ ((j:Nat):Int)<((E:Nat):Int):=by omega
      obtain rfl:E=j:=by omega
      simp only [push_cast,seval,-Nat.reducePow,g0,g4,g7,g6,gL,g8,g9,g12,g11,hj']
      refine aLc (fun s4=>∃ id2,s4.env 0=.str s∧s4.env 4=.lst 1 (bls p)∧s4.env 9=.int .i64 N∧s4.env 6=.own id2 5 0 (a++aEi s p i).length∧s4.L id2=some (.vec (T 14) 5 (secV (a++aEi s p i)))∧id2<s4.nx) ?_ ?_
      ·have hcal:=t137 h137 S ((s.take E).drop i) (by rw [List.length_drop,List.length_take]; omega)
       have himm:(hdV ((s.take E).drop i)).imm=true:=by unfold hdV; split <;> rfl
       have htk:List.take a.length (secV a)=secV a:=List.take_of_length_le (by rw [aD1]; omega)
       have htl:((a.length:Nat):Int)=((secV a).length:Nat):=by rw [aD1]
       simp only [push_cast,seval,-Nat.reducePow,g0,g4,g7,g6,gL,g8,g9,g12,g11]
       repeat refine And.intro (by omega) ?_
       refine aAh hcal (by simp only [push_cast,seval,-Nat.reducePow]) himm ?_
       generalize (s.take E).drop i=ln at *
       simp only [hdV] at himm ⊢
       by_cases hbad:aF6 ln
       ·have hs0:aEi s p i=[]:=by rw [hsq]; simp [hdOk,hbad]
        rw [if_pos hbad,hs0,List.append_nil]
        simp only [push_cast,seval,-Nat.reducePow,g0,g4,g7,g6,gL,g8,g9,g12,g11]
        exact ⟨id,rfl,gL,by omega⟩
       ·rw [if_neg hbad]
        by_cases hem:hdS ln=[]
        ·have hs0:aEi s p i=[]:=by rw [hsq]; simp [hdOk,hbad,hem]
         rw [hs0,List.append_nil]
         simp only [push_cast,seval,-Nat.reducePow,g0,g4,g7,g6,gL,g8,g9,g12,g11,hem]
         exact ⟨id,rfl,gL,by omega⟩
        ·cases hall:allP p i E with
         | false =>
           have hs0:aEi s p i=[]:=by rw [hsq]; simp [hdOk,hbad,hem,hall]
           rw [hs0,List.append_nil]
           rw [hall] at g11
           simp only [push_cast,seval,-Nat.reducePow,g0,g4,g7,g6,gL,g8,g9,g12,g11,hem]
           exact ⟨id,rfl,gL,by omega⟩
         | true =>
           have hs0:aEi s p i=[⟨hdN ln,hdS ln,i,N,s.length⟩]:=by rw [hsq]; simp [hdOk,hbad,hem,hall]
           have hsn:=aXo a ⟨hdN ln,hdS ln,i,N,s.length⟩
           simp only [Sec.v] at hsn
           rw [hs0]
           rw [hall] at g11
           simp only [push_cast,seval,-Nat.reducePow,g0,g4,g7,g6,gL,g8,g9,g12,g11,hem,htk,hsn]
           exact ⟨by rw [aD1]; omega,by omega,s3.nx+439,by simp,aAf _ _ _,by omega⟩
      ·rintro s4 ⟨id2,m0,m4,m9,m6,mL,mid⟩
       simp only [push_cast,seval,-Nat.reducePow,m0,m4,m9,m6,mL]
       have hsl:(aEi s p i).length≤1:=by rw [hsq]; split <;> simp
       exact ⟨s.length-N,by omega,a++aEi s p i,N,id2,by rw [hra,List.append_assoc],rfl,by omega,by rw [List.length_append]; omega,rfl,rfl,mL,by omega⟩
  ·have hlt':¬ ((i:Nat):Int)<((s.length:Nat):Int):=by omega
   obtain rfl:i=s.length:=by omega
   rw [bDz s p _ (Nat.le_refl _),List.append_nil] at hra
   simp only [push_cast,seval,-Nat.reducePow,j0,j4,j7,j6,jL,hlt']
   refine aAl (fun m s2=>∃ d r id,toF a=d++toF r∧a.length=d.length+r.length∧m=r.length∧s2.env 85=.int .i64 a.length∧s2.env 86=.int .i64 d.length∧s2.env 6=.own id 5 0 a.length∧s2.L id=some (.vec (T 14) 5 (secV (d++r)))∧id<s2.nx) a.length ⟨[],a,id,?_⟩ fun m s2 hJ=>?_
   ·simp only [push_cast,seval,-Nat.reducePow,j0,j4,j7,j6,jL]
    omega
   ·obtain ⟨d,r,id,htf,hlen,rfl,k5,k6,k7,kL,kid⟩:=hJ
    cases r with
    | nil =>
      have hd:¬ ((d.length:Nat):Int)<((a.length:Nat):Int):=by simp at hlen; omega
      simp only [push_cast,seval,-Nat.reducePow,k5,k6,k7,kL,hd]
      rw [hsec,hra,htf]
      simp only [toF]
      exact aPg kL (aF5 _) (by rw [aD1,List.length_append,hlen])
    | cons x q =>
      have hd:((d.length:Nat):Int)<((a.length:Nat):Int):=by simp at hlen; omega
      simp only [List.length_cons] at hlen
      simp only [push_cast,seval,-Nat.reducePow,k5,k6,k7,kL,hd]
      repeat refine And.intro (by omega) ?_
      refine aAl (fun m s3=>∃ u v,q=u++v∧(∀ y,y∈u→x.lev<y.lev)∧m=v.length∧s3.env 85=.int .i64 a.length∧s3.env 86=.int .i64 d.length∧s3.env 16=.int .i64 d.length∧s3.env 17=.int .i64 (d.length+1+u.length:Nat)∧s3.env 6=.own id 5 0 a.length∧s3.L id=some (.vec (T 14) 5 (secV (d++x::q)))∧id<s3.nx) q.length ⟨[],q,?_⟩ fun m s3 hJ=>?_
      ·simp only [push_cast,seval,-Nat.reducePow,k5,k6,k7,kL]
       omega
      ·obtain ⟨u,v,rfl,hu,rfl,g5,g6,g16,g17,g7,gL,gid⟩:=hJ
       have hx:=aPx d x (u++v)
       generalize hK:d.length+1+u.length=K at *
       simp only [List.length_append] at hlen
       cases v with
       | nil =>
         have hk:¬ ((K:Nat):Int)<((a.length:Nat):Int):=by simp at hlen; omega
         simp only [push_cast,seval,-Nat.reducePow,g5,g6,g16,g17,g7,gL,hk]
         have htn:=bAg (x:=x) (q:=u) hu
         simp only [List.append_nil] at htf gL ⊢
         refine ⟨by omega,u.length,by omega,d++[x],u,id,?_,by simp; omega,rfl,by simp,rfl,by simpa using gL,by omega⟩
         rw [htf]; simp [toF,htn]
       | cons y v =>
         have hk:((K:Nat):Int)<((a.length:Nat):Int):=by simp at hlen; omega
         have hy:(secV (d++x::(u++y::v))).getD K .junk=y.v:=by
          have:=aPx (d++x::u) y v
          rw [show (d++x::u).length=K by simp; omega] at this
          simpa using this
         by_cases hyx:y.lev≤x.lev
         ·have hyx':((y.lev:Nat):Int)≤((x.lev:Nat):Int):=by omega
          simp only [push_cast,seval,-Nat.reducePow,g5,g6,g16,g17,g7,gL,hk,hx,hy,Sec.v,hyx']
          have hls:(secV (d++x::(u++y::v))).length=d.length+(u.length+(v.length+1)+1):=by rw [aD1]; simp
          have hse:=bBy d x (endS x y.fr) (u++y::v)
          have hts:=aWi (x:=x) (y:=y) (u:=u) (v:=v) hu hyx
          simp only [Sec.v,endS] at hse hts
          refine ⟨by omega,by omega,by omega,by omega,by omega,by omega,by omega,by omega,by omega,(u++y::v).length,Nat.lt_succ_self _,d++[toOf x (u++y::v)],u++y::v,id,?_,by simp at hlen ⊢; omega,rfl,by simp,rfl,?_,by omega⟩
          ·rw [htf]; simp [toF]
          ·rw [aAf,hse,hts]; simp
         ·have hyx':¬ ((y.lev:Nat):Int)≤((x.lev:Nat):Int):=by omega
          simp only [push_cast,seval,-Nat.reducePow,g5,g6,g16,g17,g7,gL,hk,hx,hy,Sec.v,hyx']
          have hls:(secV (d++x::(u++y::v))).length=d.length+(u.length+(v.length+1)+1):=by rw [aD1]; simp
          refine ⟨by omega,by omega,by omega,by omega,by omega,v.length,by omega,u++[y],v,by simp,?_,rfl,?_,by omega⟩
          ·intro z hz
           rw [List.mem_append,List.mem_singleton] at hz
           rcases hz with hz | rfl
           ·exact hu z hz
           ·omega
          ·simp; omega
theorem aZp (hf:bH4 P F T) (h2:∀ l:List Node,aA4 l≤2^26→PTr P (F 2) [.lst 5 (encs l)] (.str (srcs l))) (s:List UInt8) (hp:PTr P (F 36) [.str s] (.tup [ln 5 (vns (aCn s)),.int .i64 0])) (hs:s.length≤8192) (hlit:Lit s) :
 PTr P (F 136) [.str s] (.tup [.lst 1 (bls (aA2 (aCn s))),.int .i64 0]):=by
 have hb:=bCp hlit
 have hr:=aSk hlit
 refine t136 hf h2 s (aCn s) (bKg hp ?_) (by omega) (by omega) (by rw [hr]; omega) ?_
 ·simp only [V.le]
  refine ⟨_,rfl,?_⟩
  rw [aEq,aEq,aMm,and_true]
  exact ⟨bAn (aNt _),V.le_refl _⟩
 ·have:=aEh (aCn s)
  omega
end Go.Ab
namespace Go.Ab
variable {P:Program} {F T:Nat→Nat}
def aQ8 (P:Program) (f:Nat) (s:List UInt8):Prop:=PTr P f [.str s] (.tup [.lst 5 (secV (aE9 s)),.int .i64 0])
theorem bNl (hf:bC9 P F T) (s:List UInt8) (hs:s.length≤8192) (h124:aQ8 P (F 124) s):PTr P (F 131) [.str s] (.tup [.str (aM7 s),.int .i64 0]):=by
 have h1:PTr _ _ _ _:=h124
 have hok:=aMi s
 refine ptrC [] hf (by simp) rfl ?_
 simp only [c131,push_cast,seval,-Nat.reducePow]
 refine aAh h1 (by simp only [push_cast,seval,-Nat.reducePow]) (by simp only [push_cast,seval,-Nat.reducePow,aF5]) ?_
 unfold aM7
 cases hl:aE9 s with
 | nil =>
   simp only [push_cast,seval,-Nat.reducePow,secV,List.map_nil,view]
 | cons x r =>
   have:=hok x (by rw [hl]; simp)
   have h2:=this.bd
   have h3:=this.le
   have h4:=this.to
   have h5:¬ (((r.length:Nat):Int)+1=0):=by omega
   have h6:List.drop 0 (List.take x.fr s)=List.take x.fr s:=rfl
   simp only [push_cast,seval,-Nat.reducePow,secV,List.map_cons,view,Sec.v,List.getD_cons_zero,List.length_cons,List.length_map,h5]
   omega
theorem bGn (hf:bFy P F T) (h131:bC9 P F T) (s:List UInt8) (hs:s.length≤8192) (h124:aQ8 P (F 124) s):PTr P (F 258) [.str s] (.tup [.lst 3 ((aAb s).map Un.v),.int .i64 0]):=by
 have h1:PTr _ _ _ _:=h124
 have h2:=bNl h131 s hs h124
 have hok:=aMi s
 have hpr:=aNm s
 have hcnt:=aSq s
 have hun:aAb s=⟨[],0,aM7 s⟩::uGo s [] (aE9 s):=rfl
 have himm:∀ l:List Un,V.imms (l.map Un.v)=true:=fun l=>aE0 _ _ fun u=>rfl
 refine ptrC [] hf (by simp) (by simp [V.imm,V.imms,himm]) ?_
 simp only [c258,push_cast,seval,-Nat.reducePow]
 refine aAh h1 (by simp only [push_cast,seval,-Nat.reducePow]) (by simp only [push_cast,seval,-Nat.reducePow,aF5]) ?_
 simp only [push_cast,seval,-Nat.reducePow]
 refine aAh h2 (by simp only [push_cast,seval,-Nat.reducePow]) (by simp only [push_cast,seval,-Nat.reducePow]) ?_
 obtain ⟨l,hl⟩:∃ l,l=aE9 s:=⟨_,rfl⟩
 rw [← hl] at hok hpr hcnt hun ⊢
 have hlen:=aD1 l
 simp only [push_cast,seval,-Nat.reducePow,hlen]
 refine aAl (fun m s1=>∃ d r out id mid c ml,l=d++r∧m=r.length∧out++uGo s d r=aAb s∧(∀ t,((getK ml t).getD 0)=cntT d t)∧s1.env 0=.str s∧s1.env 4=.lst 5 (secV l)∧s1.env 30=.lst 5 (secV l)∧s1.env 31=.int .i64 l.length∧s1.env 32=.int .i64 d.length∧s1.env 8=.own id 3 0 out.length∧s1.L id=some (.vec (T 28) 3 (out.map Un.v))∧s1.env 9=.map mid∧s1.L mid=some (.map c (mE V.str intN ml))∧id<s1.nx∧mid<s1.nx∧id≠mid) l.length ⟨[],l,[⟨[],0,aM7 s⟩],316,389,0,[],?_⟩ fun m s1 hJ=>?_
 ·simp only [push_cast,seval,-Nat.reducePow]
  exact ⟨hun.symm,fun t=>rfl,rfl,rfl⟩
 ·obtain ⟨d,r,out,id,mid,c,ml,rfl,rfl,ho,hm,j0,j4,j30,j31,j32,j8,jL,j9,jM,hid,hmid,hne⟩:=hJ
  cases r with
  | nil =>
    have h':¬ ((d.length:Nat):Int)<((d++[]).length:Nat):=by simp
    simp only [push_cast,seval,-Nat.reducePow,j0,j4,j30,j31,j32,j8,j9,h']
    rw [uGo,List.append_nil] at ho
    subst ho
    have hv:view s1.L 2 (.own id 3 0 (aAb s).length)=.lst 3 ((aAb s).map Un.v):=by
     have:=aFj (n:=1) (sz:=3) jL (himm _)
     rwa [List.length_map] at this
    simp only [view] at hv ⊢
    simp only [List.map_cons,List.map_nil,hv,view]
  | cons x r =>
    have h':((d.length:Nat):Int)<((d++x::r).length:Nat):=by simp; omega
    have hx:=hok x (by simp)
    have x1:=hx.bd
    have x2:=hx.le
    have x3:=hx.to
    have e1:(((d.length:Nat):Int)+1).toNat=d.length+1:=by omega
    rw [uGo] at ho
    have hfind:=aI0 (ks:=[1]) (ag:=false) (enc:=V.str) (ev:=intN) aGg (fun _=>rfl) x.title ml
    have hres:=aWy (enc:=V.str) (ev:=intN) (.int .i64 0) ml x.title
    have hcx:=hm x.title
    have hres2:mres false (.int .i64 0) (mE V.str intN ml) (ixK ml x.title)=.int .i64 (cntT d x.title:Nat):=by
     rw [hres,← hcx]
     cases getK ml x.title <;> rfl
    have hcl:cntT d x.title≤d.length:=by unfold cntT; exact List.length_filter_le _ _
    obtain ⟨c',ml',hput,hget⟩:=aXj (enc:=V.str) (ev:=intN) c ml x.title (cntT d x.title+1)
    have hput2:aGs c (mE V.str intN ml) (.str x.title) (.int .i64 (((cntT d x.title:Nat):Int)+1)) (ixK ml x.title)=.map c' (mE V.str intN ml'):=hput
    have hm':∀ t,((getK ml' t).getD 0)=cntT (d++[x]) t:=fun t=>by
     rw [hget,aM3]
     by_cases ht:t=x.title
     ·subst ht; simp
     ·rw [if_neg ht,if_neg fun e=>ht e.symm,hm t]; rfl
    have hul:=aEg s
    have hol2:out.length≤8193:=by have:=congrArg List.length ho; rw [List.length_append] at this; omega
    have hdl:(d++x::r).length=d.length+(r.length+1):=by simp
    obtain ⟨⟨a1,a2,a3,a4⟩,a5,a6,a7,a8⟩:((s1.nx+83≠mid)∧(mid≠s1.nx+83)∧(s1.nx+83≠id)∧(id≠s1.nx+83))∧(s1.nx+136≠mid)∧(mid≠s1.nx+136)∧(s1.nx+136≠id)∧(id≠s1.nx+136):=by omega
    have hne2:mid≠id:=fun e=>hne e.symm
    have hol:(out.map Un.v).length=out.length:=List.length_map ..
    have hnot:∀ k:Nat,s1.nx+k≠mid∧mid≠s1.nx+k∧s1.nx+k≠id∧id≠s1.nx+k:=fun k=>by omega
    simp only [push_cast,seval,-Nat.reducePow,j0,j4,j30,j31,j32,j8,j9,h',hlen,aPx,Sec.v]
    refine ⟨by omega,?_⟩
    cases r with
    | nil =>
      have q:¬ ((d.length:Nat):Int)+1<((d++[x]).length:Nat):=by simp
      simp only [push_cast,seval,-Nat.reducePow,j0,j4,j30,j31,j32,j8,j9,q]
      refine aCc (cl:=c) (by simp only [upd,(hnot 83).2.1,if_false,jM]) (by simp [aD3,aGg,V.isA,V.imm]) hfind (by rw [hres2]; rfl) ?_
      simp only [push_cast,seval,-Nat.reducePow,j0,j8,j9,hres2,a1,a2,a3,a4,jL,hol]
      refine ⟨by omega,by omega,?_⟩
      refine aCc (cl:=c) (by simp only [upd,a2,hne2,(hnot 352).2.1,if_false,jM]) (by simp [aD3,aGg,V.isA,V.imm]) hfind (by rw [hres2]; rfl) ?_
      simp only [push_cast,seval,-Nat.reducePow,j0,j8,j9,hres2,a1,a2,a3,a4,jL,hol]
      refine ⟨by omega,?_⟩
      refine aGi (cl:=c) (by simp only [upd,a2,hne2,(hnot 352).2.1,if_false,jM]) (by simp [aD3,aGg,V.isA,V.imm]) rfl hfind ?_
      simp only [push_cast,seval,-Nat.reducePow,j0,j4,j30,j31,j32,j8,j9,hput2]
      refine ⟨by omega,([]:List Sec).length,by simp,d++[x],([]:List Sec),out++[⟨x.title,cntT d x.title,(s.take s.length).drop x.fr⟩],s1.nx+352,mid,c',ml',by simp,by simp,by rw [← ho]; simp [nxF],hm',by simp,by simp,?_,?_,?_⟩
      ·rw [aAd _ _ _ _ (hnot 352).1,aAf,List.map_append,List.take_of_length_le (by rw [hol]; exact Nat.le_refl _)]; rfl
      ·rfl
      ·exact ⟨aAf _ _ _,by omega,by omega,by omega⟩
    | cons y r2 =>
      have q:((d.length:Nat):Int)+1<((d++x::y::r2).length:Nat):=by simp; omega
      simp only [push_cast,seval,-Nat.reducePow,j0,j4,j30,j31,j32,j8,j9,q,e1,bDe,Sec.v,hlen]
      refine ⟨by omega,by omega,by omega,?_⟩
      refine aCc (cl:=c) (by simp only [upd,(hnot 83).2.1,if_false,jM]) (by simp [aD3,aGg,V.isA,V.imm]) hfind (by rw [hres2]; rfl) ?_
      simp only [push_cast,seval,-Nat.reducePow,j0,j8,j9,hres2,a1,a2,a3,a4,jL,hol]
      refine ⟨by have:=(List.pairwise_cons.1 (List.pairwise_append.1 hpr).2.1).1 y (by simp); omega,by have:=(hok y (by simp)).bd; have:=(hok y (by simp)).le; have:=(hok y (by simp)).to; omega,by omega,?_⟩
      refine aCc (cl:=c) (by simp only [upd,a2,hne2,(hnot 424).2.1,if_false,jM]) (by simp [aD3,aGg,V.isA,V.imm]) hfind (by rw [hres2]; rfl) ?_
      simp only [push_cast,seval,-Nat.reducePow,j0,j8,j9,hres2,a1,a2,a3,a4,jL,hol]
      refine ⟨by omega,?_⟩
      refine aGi (cl:=c) (by simp only [upd,a2,hne2,(hnot 424).2.1,if_false,jM]) (by simp [aD3,aGg,V.isA,V.imm]) rfl hfind ?_
      simp only [push_cast,seval,-Nat.reducePow,j0,j4,j30,j31,j32,j8,j9,hput2]
      refine ⟨by omega,(y::r2).length,by simp,d++[x],(y::r2),out++[⟨x.title,cntT d x.title,(s.take y.fr).drop x.fr⟩],s1.nx+424,mid,c',ml',by simp,by simp,by rw [← ho]; simp [nxF],hm',by simp,by simp,?_,?_,?_⟩
      ·rw [aAd _ _ _ _ (hnot 424).1,aAf,List.map_append,List.take_of_length_le (by rw [hol]; exact Nat.le_refl _)]; rfl
      ·rfl
      ·exact ⟨aAf _ _ _,by omega,by omega,by omega⟩
structure MrgL (P:Program) (F T:Nat→Nat):Prop extends OrdFns P F T where
 h257:bIw P F T
 h258:bFy P F T
 h259:bFh P F T
 h262:bGo P F T
 h131:bC9 P F T
 jn:bIx P F
theorem bK1 (K:MrgL P F T) (b x y:List UInt8) (hb:b.length≤8192) (hx:x.length≤8192) (hy:y.length≤8192) (sb:aQ8 P (F 124) b) (sx:aQ8 P (F 124) x) (sy:aQ8 P (F 124) y) (hlen:b.length+2*x.length+2*y.length+2≤8192)
 (hI:¬ (x=b∨x=y∨y=b)→(InsC P F T∨∀ u,u∈aAb y→hasU (aAb x) u.nm=true)):PTr P (F 257) [.str b,.str x,.str y] (mrgV (aGe b x y)):=by
 have c0:=bGn K.h258 K.h131 b hb sb
 have c1:=bGn K.h258 K.h131 x hx sx
 have c2:=bGn K.h258 K.h131 y hy sy
 have hml:=bAf b x y
 refine ptrC [] K.h257 (by simp) (by simp [mrgV,V.imm,V.imms,bDg]) ?_
 simp only [c257,push_cast,seval,-Nat.reducePow]
 obtain ⟨q0,hq0⟩:∃ q,q=V.lst 3 ((aAb b).map Un.v):=⟨_,rfl⟩
 obtain ⟨q1,hq1⟩:∃ q,q=V.lst 3 ((aAb x).map Un.v):=⟨_,rfl⟩
 obtain ⟨q2,hq2⟩:∃ q,q=V.lst 3 ((aAb y).map Un.v):=⟨_,rfl⟩
 rw [← hq0] at c0
 rw [← hq1] at c1
 rw [← hq2] at c2
 have i0:q0.imm=true:=by rw [hq0]; exact aD2 _
 have i1:q1.imm=true:=by rw [hq1]; exact aD2 _
 have i2:q2.imm=true:=by rw [hq2]; exact aD2 _
 refine aAl (fun m s=>∃ i,i≤3∧m=3-i∧s.env 0=.str b∧s.env 1=.str x∧s.env 2=.str y∧s.env 26=.lst 1 [.str b,.str x,.str y]∧s.env 27=.int .i64 3∧s.env 28=.int .i64 i∧s.env 6=.ptr 6 0∧s.env 8=.ptr 130 0∧s.L 6=some (.box (T 27) [.str [],.nils])∧s.L 130=some (.box (T 29) [if 0<i then q0 else .nils,if 1<i then q1 else .nils,if 2<i then q2 else .nils])∧130<s.nx) 3 ⟨0,?_⟩ fun m s hJ=>?_
 ·simp only [push_cast,seval,-Nat.reducePow]
 ·obtain ⟨i,hi,rfl,j0,j1,j2,j26,j27,j28,j6,j8,jL6,jL8,hnx⟩:=hJ
  have hi4:i=0∨i=1∨i=2∨i=3:=by omega
  rcases hi4 with rfl | rfl | rfl | rfl
  ·simp only [push_cast,seval,-Nat.reducePow,j0,j1,j2,j26,j27,j28,j6,j8]
   refine aAh c0 (by simp only [push_cast,seval,-Nat.reducePow]) (by simp only [push_cast,seval,-Nat.reducePow,i0]) ?_
   simp only [push_cast,seval,-Nat.reducePow,j0,j1,j2,j26,j27,j28,j6,j8,jL8,jL6]
   exact ⟨by rw [hq0]; rfl,2,by omega,1,by omega,by omega,rfl,by rw [hq0]; rfl,by omega⟩
  ·simp only [push_cast,seval,-Nat.reducePow,j0,j1,j2,j26,j27,j28,j6,j8]
   refine aAh c1 (by simp only [push_cast,seval,-Nat.reducePow]) (by simp only [push_cast,seval,-Nat.reducePow,i1]) ?_
   simp only [push_cast,seval,-Nat.reducePow,j0,j1,j2,j26,j27,j28,j6,j8,jL8,jL6]
   exact ⟨by rw [hq1]; rfl,1,by omega,2,by omega,by omega,rfl,by rw [hq1]; rfl,by omega⟩
  ·simp only [push_cast,seval,-Nat.reducePow,j0,j1,j2,j26,j27,j28,j6,j8]
   refine aAh c2 (by simp only [push_cast,seval,-Nat.reducePow]) (by simp only [push_cast,seval,-Nat.reducePow,i2]) ?_
   simp only [push_cast,seval,-Nat.reducePow,j0,j1,j2,j26,j27,j28,j6,j8,jL8,jL6]
   exact ⟨by rw [hq2]; rfl,0,by omega,3,by omega,by omega,rfl,by rw [hq2]; rfl,by omega⟩
  ·unfold aGe
   by_cases e1:x=b
   ·subst e1
    simp only [push_cast,seval,-Nat.reducePow,j0,j1,j2,j26,j27,j28,j6,j8,jL6]
    simp [view,mrgV,aUp,ln]
   by_cases e2:x=y
   ·subst e2
    simp only [push_cast,seval,-Nat.reducePow,j0,j1,j2,j26,j27,j28,j6,j8,jL6,e1]
    simp [view,mrgV,aUp,ln]
   by_cases e3:y=b
   ·subst e3
    simp only [push_cast,seval,-Nat.reducePow,j0,j1,j2,j26,j27,j28,j6,j8,jL6,e1,e2]
    simp [view,mrgV,aUp,ln,e1]
   simp only [push_cast,seval,-Nat.reducePow,j0,j1,j2,j26,j27,j28,j6,j8,jL6,e1,e2,e3]
   have jL8':s.L 130=some (.box (T 29) [q0,q1,q2]):=jL8
   subst hq0 hq1 hq2
   have ulb:=aEg b
   have ulx:=aEg x
   have uly:=aEg y
   simp only [push_cast,seval,-Nat.reducePow,jL8',aD2]
   refine aAc (t259 K.h259 K.h261 (aAb b) (by omega) _ _) ?_
   rintro v L1 n1 ⟨cb,mlb,y1,rfl,y2,y3,y4,y5⟩
   simp only [push_cast,seval,-Nat.reducePow,aD2]
   refine aAc (t259 K.h259 K.h261 (aAb x) (by omega) _ _) ?_
   rintro v L2 n2 ⟨cx,mlx,z1,rfl,z2,z3,z4,z5⟩
   simp only [push_cast,seval,-Nat.reducePow,aD2]
   refine aAc (t259 K.h259 K.h261 (aAb y) (by omega) _ _) ?_
   rintro v L3 n3 ⟨cy,mly,w1,rfl,w2,w3,w4,w5⟩
   have ord:=t260 K.toOrdFns (aAb x) (aAb y) (hI (by simp [e1,e2,e3])) (by simp [aAb]) (by omega) (by omega) (fun u r hu=>by
    rw [aAb] at hu
    injection hu with hu _
    rw [← hu]
    exact aY9 x)
   simp only [push_cast,seval,-Nat.reducePow,j0,j1,j2,j26,j27,j28,j6,j8]
   refine aAh ord (by simp only [push_cast,seval,-Nat.reducePow,aD2]) (by simp only [push_cast,seval,-Nat.reducePow,aD2]) ?_
   obtain ⟨l,hl⟩:∃ l,l=aCp (aAb x) (aAb y):=⟨_,rfl⟩
   rw [← hl]
   have hll:=aIg l
   have g6:L3 6=some (.box (T 27) [.str [],.nils]):=by
    rw [w5 6 (by omega),z5 6 (by omega),y5 6 (by omega),aAd _ _ _ _ (by omega)]; exact jL6
   have g1:L3 (s.nx+515)=some (.map cb (mE pnV tvS mlb)):=by rw [w5 _ (by omega),z5 _ (by omega)]; exact y3
   have g2:L3 (n1+149)=some (.map cx (mE pnV tvS mlx)):=by rw [w5 _ (by omega)]; exact z3
   have g3:L3 (n2+149)=some (.map cy (mE pnV tvS mly)):=w3
   simp only [push_cast,seval,-Nat.reducePow,j6,hll]
   obtain ⟨m1,hm1⟩:∃ m,m=s.nx+515:=⟨_,rfl⟩
   obtain ⟨m2,hm2⟩:∃ m,m=n1+149:=⟨_,rfl⟩
   obtain ⟨m3,hm3⟩:∃ m,m=n2+149:=⟨_,rfl⟩
   obtain ⟨q,hq⟩:∃ m,m=n3+138:=⟨_,rfl⟩
   rw [← hm1] at g1 ⊢
   rw [← hm2] at g2 ⊢
   rw [← hm3] at g3 ⊢
   rw [← hq]
   have o1:6<q∧m1<q∧m2<q∧m3<q:=by omega
   have z6:(6:Nat)≠q∧m1≠q∧m2≠q∧m3≠q:=by omega
   refine aAl (fun m s=>∃ d r uid cv,l=d++r∧m=r.length∧s.env 6=.ptr 6 0∧s.env 13=.map m1∧s.env 14=.map m2∧s.env 15=.map m3∧s.env 16=.ptr q 0∧s.env 17=.own uid 3 0 (aIq (aAb b) (aAb x) (aAb y) d).length∧s.env 74=.lst 3 (l.map Un.v)∧s.env 75=.int .i64 l.length∧s.env 76=.int .i64 d.length ∧
    s.L q=some (.box (T 27) [.str [],cv])∧OwnS T s (q+1) uid cv (aE5 (aAb b) (aAb x) (aAb y) d)∧s.L uid=some (.vec (T 28) 3 ((aIq (aAb b) (aAb x) (aAb y) d).map Un.v))∧q<uid∧uid<s.nx∧q<s.nx∧(∀ k,k<q→s.L k=L3 k)) l.length ⟨[],l,n3+366,.nils,?_⟩ fun m s2 hJ=>?_
   ·simp only [push_cast,seval,-Nat.reducePow]
    exact ⟨j6,rfl,by rw [aAd _ _ _ _ (by omega),aAf],.inl ⟨rfl,rfl⟩,rfl,by omega,by omega,by omega,fun k hk=>by rw [aAd _ _ _ _ (by omega),aAd _ _ _ _ (by omega)]⟩
   ·obtain ⟨d,r,uid,cv,rfl,rfl,i6,i13,i14,i15,i16,i17,i74,i75,i76,iq,hcv,iu,hqu,hun,hqn,hold⟩:=hJ
    cases r with
    | nil =>
      have h':¬ ((d.length:Nat):Int)<((d++[]).length:Nat):=by simp
      simp only [push_cast,seval,-Nat.reducePow,i6,i13,i14,i15,i16,i17,i74,i75,i76,h']
      rw [List.append_nil] at hl
      subst hl
      have hmf:aGe b x y=(aFe (aIq (aAb b) (aAb x) (aAb y) (aCp (aAb x) (aAb y))),aE5 (aAb b) (aAb x) (aAb y) (aCp (aAb x) (aAb y))):=by
       unfold aGe
       rw [if_neg (by simp [e1,e2]),if_neg e3]
      rw [hmf] at hml
      obtain ⟨ru,hru⟩:∃ ru,ru=aIq (aAb b) (aAb x) (aAb y) (aCp (aAb x) (aAb y)):=⟨_,rfl⟩
      obtain ⟨cu,hcu⟩:∃ cu,cu=aE5 (aAb b) (aAb x) (aAb y) (aCp (aAb x) (aAb y)):=⟨_,rfl⟩
      have hrl:ru.length≤(aCp (aAb x) (aAb y)).length:=by
       rw [hru,aIu]
       have:=(aHi (aAb b) (aAb x) (aAb y) ((aCp (aAb x) (aAb y)).map Un.nm)).2
       rwa [List.length_map] at this
      have hodl:(aCp (aAb x) (aAb y)).length≤20000:=by
       have:=(aEk (aAb y) (aAb x) ([],0) (List.pairwise_map.2 (aEs x))).2
       unfold aCp
       omega
      rw [← hru] at iu hml ⊢
      rw [← hcu] at hcv
      have hsum:=(aG6 ru).1
      have hone:∀ v,v∈ru→v.text.length≤sumT ru:=fun v hv=>by
       exact aR0 hv
      have jn:=K.jn (ru.map Un.u3) (by rw [List.length_map]; omega) (fun v hv=>by
       obtain ⟨w,hw,rfl⟩:=List.mem_map.1 hv
       have:=hone w hw
       simp only at hml
       show w.text.length≤_
       omega) (by
       rw [List.map_map]
       show sumT ru≤_
       simp only at hml
       omega)
      rw [← un_v,List.map_map,show (ru.map ((fun u:U3=>u.2.2) ∘ Un.u3))=ru.map Un.text from rfl,← aSa] at jn
      have hvw:view s2.L 3 (.own uid 3 0 ru.length)=.lst 3 (ru.map Un.v):=by
       have:=aFj (n:=2) (sz:=3) iu (aD2 ru)
       rwa [aIg] at this
      rw [hvw]
      refine aPf jn (by simp only [push_cast,seval,-Nat.reducePow,aD2]) rfl ?_
      simp only at hml
      have hml':¬ (8192:Int)<((aFe ru).length:Nat):=by omega
      have h6:=hold 6 (by omega)
      rw [g6] at h6
      simp only [push_cast,seval,-Nat.reducePow,i16,iq,hml',i6,h6,z6.1]
      refine ⟨by rw [hcv.one]; rfl,?_⟩
      have hvc:=hcv.view (upd (upd s2.L q (some (Blk.box (T 27) [V.str (aFe ru),cv]))) 6 (some (Blk.box (T 27) [V.str (aFe ru),cv]))) (fun k hk=>by rw [aAd _ _ _ _ (by omega),aAd _ _ _ _ (by omega)]) 0
      rw [hcu] at hvc
      rw [if_neg (by simp)]
      simp only [view,List.map_cons,List.map_nil] at hvc ⊢
      rw [hvc]
      rfl
    | cons u r =>
      have h':((d.length:Nat):Int)<((d++u::r).length:Nat):=by simp; omega
      have hg:((d++u::r).map Un.v).getD d.length .junk=.agg [.str u.title,.int .i64 u.nth,.str u.text]:=by simp [List.getD,Un.v]
      have hdl:(d++u::r).length=d.length+(r.length+1):=by simp
      simp only [push_cast,seval,-Nat.reducePow,i6,i13,i14,i15,i16,i17,i74,i75,i76,h',hll,hg]
      refine aAh (t261 K.h261 u.title u.nth u.text) (by simp only [push_cast,seval,-Nat.reducePow]) (by simp only [push_cast,seval,-Nat.reducePow]) ?_
      simp only [push_cast,seval,-Nat.reducePow,i13,i14,i15,i16,i17]
      have hz0:V.agg [.bool false,.str []]=tvV none:=rfl
      have hfd:∀ ml:List ((List UInt8×Int)×List UInt8×Nat),aCr true [1,0] (.agg [.str u.title,.int .i64 u.nth]) (mE pnV tvS ml)=some (ixK ml (u.title,(u.nth:Int))):=fun ml=>aI0 (ks:=[1,0]) (ag:=true) (enc:=pnV) (ev:=tvS) bEd (fun _=>rfl) (u.title,(u.nth:Int)) ml
      have hmr:∀ (s0:List UInt8) (ml:List ((List UInt8×Int)×List UInt8×Nat)),(∀ k,getK ml k=aG5 (aAb s0) k)→mres false (.agg [.bool false,.str []]) (mE pnV tvS ml) (ixK ml (u.title,(u.nth:Int)))=tvV (txtU (aAb s0) u.nm):=fun s0 ml hk=>by
       rw [aWy,hk,aNu (aEs s0) u.nm]
       cases txtU (aAb s0) u.nm <;> rfl
      have hrb:=hmr b mlb y4
      have hrx:=hmr x mlx z4
      have hry:=hmr y mly w4
      have hko:aD3 true [1,0] (.agg [.str u.title,.int .i64 u.nth])=true:=by simp [aD3,V.isA,V.cells,aAo,aBf,V.imm,V.imms]
      have hm1':=hold m1 o1.2.1
      have hm2':=hold m2 o1.2.2.1
      have hm3':=hold m3 o1.2.2.2
      rw [g1] at hm1'
      rw [g2] at hm2'
      rw [g3] at hm3'
      refine aCc (cl:=cb) (by rw [aAd _ _ _ _ (by omega),aAd _ _ _ _ (by omega),aAd _ _ _ _ (by omega),aAd _ _ _ _ (by omega)]; exact hm1') hko (hfd mlb) (by rw [hrb]; exact aJ0 _) ?_
      simp only [push_cast,seval,-Nat.reducePow,i13,i14,i15,i16,i17,hrb]
      refine aCc (cl:=cx) (by rw [aAd _ _ _ _ (by omega),aAd _ _ _ _ (by omega),aAd _ _ _ _ (by omega),aAd _ _ _ _ (by omega)]; exact hm2') hko (hfd mlx) (by rw [hrx]; exact aJ0 _) ?_
      simp only [push_cast,seval,-Nat.reducePow,i13,i14,i15,i16,i17,hrb,hrx]
      refine aCc (cl:=cy) (by rw [aAd _ _ _ _ (by omega),aAd _ _ _ _ (by omega),aAd _ _ _ _ (by omega),aAd _ _ _ _ (by omega)]; exact hm3') hko (hfd mly) (by rw [hry]; exact aJ0 _) ?_
      simp only [push_cast,seval,-Nat.reducePow,i13,i14,i15,i16,i17,hrb,hrx,hry]
      refine aAh (t262 K.h262 _ _ _) (by simp only [push_cast,seval,-Nat.reducePow,aJ0]) (by simp only [push_cast,seval,-Nat.reducePow,aJ0]) ?_
      obtain ⟨co,hco⟩:∃ co,co=aB4 (txtU (aAb b) u.nm) (txtU (aAb x) u.nm) (txtU (aAb y) u.nm):=⟨_,rfl⟩
      rw [← hco]
      obtain ⟨c,f⟩:=co
      have hR:aIq (aAb b) (aAb x) (aAb y) (d++[u])=aIq (aAb b) (aAb x) (aAb y) d++(c.map fun s=>(⟨u.title,u.nth,s⟩:Un)).toList:=by
       unfold aIq
       rw [List.filterMap_append,List.filterMap_cons,List.filterMap_nil,← hco]
       cases c <;> rfl
      have hC:aE5 (aAb b) (aAb x) (aAb y) (d++[u])=aE5 (aAb b) (aAb x) (aAb y) d++(if f then [u.title] else []):=by
       unfold aE5
       rw [List.filter_append,List.map_append,List.filter_cons,List.filter_nil,← hco]
       cases f <;> rfl
      obtain ⟨ru,hru⟩:∃ ru,ru=aIq (aAb b) (aAb x) (aAb y) d:=⟨_,rfl⟩
      obtain ⟨cu,hcu⟩:∃ cu,cu=aE5 (aAb b) (aAb x) (aAb y) d:=⟨_,rfl⟩
      rw [← hru] at hR iu
      rw [← hcu] at hC hcv
      have hdle:d.length+(r.length+1)≤20000:=by
       have h2:=(aEk (aAb y) (aAb x) ([],0) (List.pairwise_map.2 (aEs x))).2
       have h3:(aCp (aAb x) (aAb y)).length≤(aAb x).length+(aAb y).length:=h2
       rw [← hl] at h3
       omega
      have hrl:ru.length≤20000:=by
       have h1:ru.length≤d.length:=by
        rw [hru,aIu]
        have:=(aHi (aAb b) (aAb x) (aAb y) (d.map Un.nm)).2
        rwa [List.length_map] at this
       omega
      have hcl:cu.length≤20000:=by
       have h1:cu.length≤d.length:=by
        rw [hcu]
        unfold aE5
        rw [List.length_map]
        exact List.length_filter_le _ _
       omega
      have hlru:=aIg ru
      cases f with
      | false =>
        cases c with
        | none =>
          simp only [push_cast,seval,-Nat.reducePow,tvV,i6,i13,i14,i15,i16,i17,i74,i75,i76,← hru]
          refine ⟨by omega,r.length,by omega,d++[u],r,uid,cv,by simp,rfl,by rw [hR]; simp,by simp,?_,?_,?_,by omega,by omega,by omega,?_⟩
          ·repeat rw [aAd _ _ _ _ (by omega)]
           exact iq
          ·rw [hC]
           simp only [Bool.false_eq_true,if_false,List.append_nil]
           exact hcv.mono (fun k h1 h2 h3=>by simp only; repeat rw [aAd _ _ _ _ (by omega)]) (by simp only; omega) (.inl rfl)
          ·rw [hR]
           repeat rw [aAd _ _ _ _ (by omega)]
           simpa using iu
          ·intro k hk
           repeat rw [aAd _ _ _ _ (by omega)]
           exact hold k hk
        | some z =>
          have u1:uid≠s2.nx+141:=by omega
          have u2:uid≠s2.nx+264:=by omega
          have u3:uid≠s2.nx+387:=by omega
          simp only [push_cast,seval,-Nat.reducePow,tvV,i6,i13,i14,i15,i16,i17,i74,i75,i76,← hru,u1,u2,u3,iu,hlru]
          refine ⟨by omega,by omega,r.length,by omega,d++[u],r,s2.nx+965,cv,by simp,rfl,by rw [hR]; simp,by simp,?_,?_,?_,by omega,by omega,by omega,?_⟩
          ·repeat rw [aAd _ _ _ _ (by omega)]
           exact iq
          ·rw [hC]
           simp only [Bool.false_eq_true,if_false,List.append_nil]
           exact hcv.mono (fun k h1 h2 h3=>by simp only; repeat rw [aAd _ _ _ _ (by omega)]) (by simp only; omega) (.inr (by omega))
          ·rw [hR,aAf,List.map_append,List.take_of_length_le (by rw [hlru]; exact Nat.le_refl _)]
           rfl
          ·intro k hk
           repeat rw [aAd _ _ _ _ (by omega)]
           exact hold k hk
      | true =>
        have u1:uid≠s2.nx+141:=by omega
        have u2:uid≠s2.nx+264:=by omega
        have u3:uid≠s2.nx+387:=by omega
        have q1:q≠s2.nx+141:=by omega
        have q2:q≠s2.nx+264:=by omega
        have q3:q≠s2.nx+387:=by omega
        have q4:q≠s2.nx+711:=by omega
        have u4:uid≠s2.nx+711:=by omega
        have r1:s2.nx+141≠q:=by omega
        have r2:s2.nx+387≠q:=by omega
        have r3:s2.nx+141≠uid:=by omega
        have r4:s2.nx+387≠uid:=by omega
        have r5:s2.nx+711≠q:=by omega
        have r6:s2.nx+711≠uid:=by omega
        have u5:uid≠q:=by omega
        rcases hcv with ⟨hc0,rfl⟩ | ⟨hc0,id,rfl,c1',c2',c3',c4'⟩
        ·cases c with
         | none =>
           simp only [push_cast,seval,-Nat.reducePow,tvV,i6,i13,i14,i15,i16,i17,i74,i75,i76,← hru,u1,u2,u3,q1,q2,q3,iq,iu,hlru]
           refine aI9 ?_
           simp only [push_cast,seval,-Nat.reducePow,appN,i6,i13,i14,i15,i16,i17,i74,i75,i76,u1,u2,u3,u4,u5,q1,q2,q3,q4,r1,r2,r3,r4,r5,r6,iq,iu,hlru,← hru]
           refine ⟨by omega,by omega,r.length,by omega,d++[u],r,uid,.own (s2.nx+711) 1 0 (cu.length+1),by simp,rfl,by rw [hR]; simp,by simp,?_,?_,?_,by omega,by omega,by omega,?_⟩
           ·first | rfl | (rw [hc0]; rfl) | ((repeat (rw [aAd _ _ _ _ (by omega)])); rw [aAf]; try (first | rfl | (rw [hc0]; rfl)))
           ·rw [hC]
            refine .inr ⟨by simp,s2.nx+711,by simp,?_,by omega,by simp only; omega,by omega⟩
            simp only
            repeat rw [aAd _ _ _ _ (by omega)]
            rw [aAf]
            first | (simp [hc0]; done) | (simp [List.take_of_length_le]; done)
           ·rw [hR]
            repeat rw [aAd _ _ _ _ (by omega)]
            simpa using iu
           ·intro k hk
            repeat rw [aAd _ _ _ _ (by omega)]
            exact hold k hk
         | some z =>
           simp only [push_cast,seval,-Nat.reducePow,tvV,i6,i13,i14,i15,i16,i17,i74,i75,i76,← hru,u1,u2,u3,q1,q2,q3,iq,iu,hlru]
           refine aI9 ?_
           simp only [push_cast,seval,-Nat.reducePow,appN,i6,i13,i14,i15,i16,i17,i74,i75,i76,u1,u2,u3,u4,u5,q1,q2,q3,q4,r1,r2,r3,r4,r5,r6,iq,iu,hlru,← hru]
           refine ⟨by omega,by omega,by omega,r.length,by omega,d++[u],r,s2.nx+1087,.own (s2.nx+711) 1 0 (cu.length+1),by simp,rfl,by rw [hR]; simp,by simp,?_,?_,?_,by omega,by omega,by omega,?_⟩
           ·first | rfl | (rw [hc0]; rfl) | ((repeat (rw [aAd _ _ _ _ (by omega)])); rw [aAf]; try (first | rfl | (rw [hc0]; rfl)))
           ·rw [hC]
            refine .inr ⟨by simp,s2.nx+711,by simp,?_,by omega,by simp only; omega,by omega⟩
            simp only
            repeat rw [aAd _ _ _ _ (by omega)]
            rw [aAf]
            first | (simp [hc0]; done) | (simp [List.take_of_length_le]; done)
           ·rw [hR]
            rw [aAf,List.map_append,List.take_of_length_le (by rw [hlru]; exact Nat.le_refl _)]
            rfl
           ·intro k hk
            repeat rw [aAd _ _ _ _ (by omega)]
            exact hold k hk
        ·have v1:id≠s2.nx+141:=by omega
         have t1:s2.nx+141≠id:=by omega
         have t2:s2.nx+387≠id:=by omega
         have t3:s2.nx+711≠id:=by omega
         have v2:id≠s2.nx+264:=by omega
         have v3:id≠s2.nx+387:=by omega
         have v4:uid≠id:=fun e=>c4' e.symm
         have v5:q≠id:=by omega
         have hcln:(cu.map V.str).length=cu.length:=List.length_map ..
         cases c with
         | none =>
           simp only [push_cast,seval,-Nat.reducePow,tvV,i6,i13,i14,i15,i16,i17,i74,i75,i76,← hru,u1,u2,u3,q1,q2,q3,q4,u4,u5,r1,r2,r3,r4,r5,r6,t1,t2,t3,v1,v2,v3,v4,v5,c4',c1',iq,iu,hlru,hcln]
           refine ⟨by omega,by omega,r.length,by omega,d++[u],r,uid,.own (s2.nx+711) 1 0 (cu.length+1),by simp,rfl,by rw [hR]; simp,by simp,?_,?_,?_,by omega,by omega,by omega,?_⟩
           ·first | rfl | (rw [hc0]; rfl) | ((repeat (rw [aAd _ _ _ _ (by omega)])); rw [aAf]; try (first | rfl | (rw [hc0]; rfl)))
           ·rw [hC]
            refine .inr ⟨by simp,s2.nx+711,by simp,?_,by omega,by simp only; omega,by omega⟩
            simp only
            repeat rw [aAd _ _ _ _ (by omega)]
            rw [aAf]
            first | (simp [hc0]; done) | (simp [List.take_of_length_le]; done)
           ·rw [hR]
            repeat rw [aAd _ _ _ _ (by omega)]
            simpa using iu
           ·intro k hk
            repeat rw [aAd _ _ _ _ (by omega)]
            exact hold k hk
         | some z =>
           simp only [push_cast,seval,-Nat.reducePow,tvV,i6,i13,i14,i15,i16,i17,i74,i75,i76,← hru,u1,u2,u3,q1,q2,q3,q4,u4,u5,r1,r2,r3,r4,r5,r6,t1,t2,t3,v1,v2,v3,v4,v5,c4',c1',iq,iu,hlru,hcln]
           refine ⟨by omega,by omega,by omega,r.length,by omega,d++[u],r,s2.nx+1087,.own (s2.nx+711) 1 0 (cu.length+1),by simp,rfl,by rw [hR]; simp,by simp,?_,?_,?_,by omega,by omega,by omega,?_⟩
           ·first | rfl | (rw [hc0]; rfl) | ((repeat (rw [aAd _ _ _ _ (by omega)])); rw [aAf]; try (first | rfl | (rw [hc0]; rfl)))
           ·rw [hC]
            refine .inr ⟨by simp,s2.nx+711,by simp,?_,by omega,by simp only; omega,by omega⟩
            simp only
            repeat rw [aAd _ _ _ _ (by omega)]
            rw [aAf]
            first | (simp [hc0]; done) | (simp [List.take_of_length_le]; done)
           ·rw [hR]
            rw [aAf,List.map_append,List.take_of_length_le (by rw [hlru]; exact Nat.le_refl _)]
            rfl
           ·intro k hk
            repeat rw [aAd _ _ _ _ (by omega)]
            exact hold k hk
end Go.Ab
