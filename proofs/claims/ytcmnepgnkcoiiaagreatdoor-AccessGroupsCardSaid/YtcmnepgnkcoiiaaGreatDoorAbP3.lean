/- Several texts of one kind, merged. No condition. -/
import Derived.Test.YtcmnepgnkcoiiaaGreatDoorAbP2
import Derived.Test.YtcmnepgnkcoiiaaGreatDoorAbP1
set_option linter.unusedSimpArgs false
set_option linter.unusedVariables false
namespace Go.Ab
theorem SInv.drop {els els':List El} {k:Nat} (h:SInv els) (he:kc els'=(kc els).drop k) (hk:k<els.length):SInv els':=by
 obtain ⟨a,ha⟩:=h.root
 have hl:els.length=a.length+1:=by
  have:=congrArg List.length ha
  simpa [kc] using this
 refine ⟨h.cn.drop he,a.drop k,?_⟩
 rw [he,ha,List.drop_append_of_le_length (by omega)]
theorem SInv.same {els els':List El} (h:SInv els) (he:kc els'=kc els):SInv els':=⟨fun q hq=>h.cn q (he ▸ hq),by rw [he]; exact h.root⟩
theorem SInv.push {els els':List El} {q:Nat×Nat} (h:SInv els) (he:kc els'=q::kc els) (hq:q.1=3→2≤q.2):SInv els':=by
 obtain ⟨a,ha⟩:=h.root
 refine ⟨fun x hx=>?_,q::a,by rw [he,ha]; rfl⟩
 rw [he] at hx
 rcases List.mem_cons.1 hx with rfl | hx
 ·exact hq
 ·exact h.cn x hx
theorem tagIdx_lt {t:Nat} {els:List El} {k:Nat} (h:tagIdx t els=some k):k+1<els.length:=by
 rcases lastT_idx t els with ⟨g,_⟩ | ⟨j,g1,g2,g3⟩
 ·rw [g] at h; simp at h
 ·rw [g1] at h; simp at h; omega
theorem braceIdx_lt {els:List El} {k:Nat} (h:braceIdx els=some k):k+1<els.length:=by
 rcases lastB_idx els with ⟨g,_⟩ | ⟨j,g1,g2,g3⟩
 ·rw [g] at h; simp at h
 ·rw [g1] at h; simp at h; omega
theorem flatN_cons {k:Nat} {els:List El} (h:k<els.length):∃ e r,flatN k els=e::r∧kc (e::r)=(kc els).drop k∧r.length+k+1=els.length:=by
 have hl:=flatN_length k (els:=els)
 cases hf:flatN k els with
 | nil=>rw [hf] at hl; simp at hl; omega
 | cons e r =>
   refine ⟨e,r,rfl,by rw [← hf]; exact kc_flatN k,?_⟩
   rw [hf] at hl; simp at hl; omega
def lenT:List Tok→Nat
 | []=>0
 | t::r=>(t.to-t.fr)+lenT r
theorem lenT_append (a b:List Tok):lenT (a++b)=lenT a+lenT b:=by
 induction a with
 | nil=>simp [lenT]
 | cons x r ih=>simp [lenT,ih]; omega
end Go.Ab
namespace Go.Ab
variable {P:Program} {F T:Nat→Nat}
def tvs (l:List Tok):List V:=l.map fun t=>.agg t.vs
theorem tvs_length (l:List Tok):(tvs l).length=l.length:=by simp [tvs]
theorem imms_tvs (l:List Tok):V.imms (tvs l)=true:=imms_map _ _ fun t=>by simp [Tok.vs,V.imm,V.imms]
theorem tvs_at (a:List Tok) (t:Tok) (r:List Tok):(tvs (a++t::r)).getD a.length .junk=.agg t.vs:=by
 simp only [tvs,List.map_append,List.map_cons]
 exact getD_mid (by simp)
attribute [push_cast] tvs_length imms_tvs tvs_at
end Go.Ab
namespace Go.Ab
def c105 (F T:Nat→Nat):C :=
 .n [.mov (some 4) (.i 0)] <|
 .n [.mov (some 5) (.i 0)] <|
 .seq (.block 0 <|
 .loop <|
 .seq (.seq (.ops false [⟨none,[.m 6 5,.m 7 0,.ls 8 7,.b 9 .lss 6 8,.m 10 9]⟩,
 ⟨some (10,true),[.m 11 0,.m 12 5,.ix 13 11 12,.m 14 1,.b 15 .eql 13 14]⟩,
 ⟨none,[.pf 16 10 15]⟩]) <|
 .cond (.t 16)
 (.skip)
 (.exit 0)) <|
 .block 1 <|
 .o [.m 17 5,.bi 18 .add 17 1,.m 5 18]) <|
 .n [.m 19 5,.m 4 19] <|
 .ret
abbrev Is105 (P:Program) (F T:Nat→Nat):Prop:=Fn P (F 105) 20 [(4,none)] (c105 F T)
end Go.Ab
namespace Go.Ab
variable {P:Program} {F T:Nat→Nat}
theorem runL_drop (c:UInt8) (s:List UInt8) (n:Nat) (hn:n<s.length) (hc:s.getD n 0=c) (h:runL c s=n+runL c (s.drop n)):runL c s=(n+1)+runL c (s.drop (n+1)):=by
 rw [h,List.drop_eq_getElem_cons hn]
 have:s[n]=c:=by simpa [List.getD,hn] using hc
 simp [runL,this]; omega
theorem u8_eq {a b:UInt8} (h:((a.toNat:Nat):Int)=((b.toNat:Nat):Int)):a=b:=UInt8.toNat_inj.1 (by omega)
theorem t105 (hf:Is105 P F T) (s:List UInt8) (c:UInt8) (hs:s.length<2^62):PTr P (F 105) [.str s,.int .u8 c.toNat] (.int .i64 (runL c s)):=by
 refine ptrC [] hf (by simp) rfl ?_
 simp only [c105,push_cast,seval,-Nat.reducePow]
 refine loopK_intro (fun m s1=>∃ n,n≤s.length∧m=s.length-n∧s1.env 0=.str s∧s1.env 1=.int .u8 c.toNat∧s1.env 5=.int .i64 n∧runL c s=n+runL c (s.drop n)) s.length ⟨0,?_⟩ fun m s1 hJ=>?_
 ·simp only [push_cast,seval,-Nat.reducePow,Nat.sub_zero,List.drop_zero]
 ·obtain ⟨n,hn,rfl,j0,j1,j5,hr⟩:=hJ
  simp only [push_cast,seval,-Nat.reducePow,j0,j1,j5]
  refine condK_dec (fun h=>?_) (fun h=>?_)
  ·have h':n<s.length:=by omega
   simp only [push_cast,seval,-Nat.reducePow,j0,j1,j5]
   refine ⟨by omega,?_⟩
   refine condK_dec (fun hc=>?_) (fun hc=>?_)
   ·have hc':=u8_eq hc
    simp only [push_cast,seval,-Nat.reducePow,j0,j1,j5]
    refine ⟨by omega,s.length-(n+1),by omega,n+1,by omega,rfl,by simp,?_⟩
    exact runL_drop c s n h' hc' hr
   ·simp only [push_cast,seval,-Nat.reducePow,j0,j1,j5,view]
    have hne:s[n]≠c:=fun e=>hc (by rw [show s.getD n 0=s[n] by simp [List.getD,h'],e])
    rw [hr,List.drop_eq_getElem_cons h']
    simp [runL,hne]
  ·have h':n=s.length:=by omega
   simp only [push_cast,seval,-Nat.reducePow,j0,j1,j5,view]
   rw [hr,h',List.drop_length]
   simp [runL]
theorem idxF_le (t:List UInt8):∀ (s:List UInt8) (i k:Nat),idxF t s i=some k→i≤k∧k+t.length≤i+s.length
 | [],i,k,h=>by
   simp only [idxF] at h
   split at h
   ·rename_i h0; simp at h; subst h; simp [h0]
   ·simp at h
 | x::r,i,k,h=>by
   simp only [idxF] at h
   split at h
   ·rename_i hp
    simp at h; subst h
    have:=(List.isPrefixOf_iff_prefix.1 hp).length_le
    exact ⟨Nat.le_refl _,by omega⟩
   ·obtain ⟨h1,h2⟩:=idxF_le t r (i+1) k h
    simp only [List.length_cons]; omega
end Go.Ab
namespace Go.Ab
variable {P:Program} {F T:Nat→Nat}
theorem tagAt_O (k:Nat) (a:1≤k) (b:k≤3):tagAt tagO (tagO k)=k:=by
 obtain rfl | rfl | rfl:k=1∨k=2∨k=3:=by omega
 all_goals simp [tagAt,tagO,tagName]
end Go.Ab
namespace Go.Ab
theorem runL_le (c:UInt8):∀ s:List UInt8,runL c s≤s.length
 | []=>by simp [runL]
 | x::r=>by simp only [runL,List.length_cons]; have:=runL_le c r; split <;> omega
theorem tagAt_spec {o:Nat→List UInt8} {s:List UInt8} (h:tagAt o s≠0):1≤tagAt o s∧tagAt o s≤3∧(o (tagAt o s)).isPrefixOf s=true:=by
 unfold tagAt at h ⊢
 split
 ·rename_i h1; exact ⟨by omega,by omega,h1⟩
 ·split
  ·rename_i h1; exact ⟨by omega,by omega,h1⟩
  ·split
   ·rename_i h1; exact ⟨by omega,by omega,h1⟩
   ·simp_all
theorem take_prefix {t s:List UInt8} (h:t.isPrefixOf s=true):s.take t.length=t:=(List.prefix_iff_eq_take.1 (List.isPrefixOf_iff_prefix.1 h)).symm
theorem len_prefix {t s:List UInt8} (h:t.isPrefixOf s=true):t.length≤s.length:=(List.isPrefixOf_iff_prefix.1 h).length_le
structure Fst (s:List UInt8) (q:Nat×Nat):Prop where
 pos:1≤q.2
 le:q.2≤s.length
 kind:2≤q.1∧q.1≤12
 wiki:q.1=10→17≤q.2∧nowikiO.isPrefixOf s=true∧nowikiC.isPrefixOf (s.drop (q.2-9))=true
 open_:q.1=3→2≤q.2∧s.take q.2=List.replicate q.2 123
 close:q.1=4→2≤q.2∧s.take q.2=List.replicate q.2 125
 tagO:q.1=11→∃ k,1≤k∧k≤3∧s.take q.2=tagO k
 tagC:q.1=12→∃ k,1≤k∧k≤3∧s.take q.2=tagC k
 link:q.1=5→s.take q.2=[91,91]
 linkC:q.1=6→s.take q.2=[93,93]
 bar:q.1=7→s.take q.2=[124]
 eq:q.1=8→s.take q.2=[61]
theorem runL_take (c:UInt8):∀ s:List UInt8,s.take (runL c s)=List.replicate (runL c s) c
 | []=>by simp [runL]
 | x::r=>by
   simp only [runL]
   split
   ·rename_i h; subst h; simp [List.replicate_succ,runL_take x r]
   ·simp
theorem runL_two {c:UInt8} {s:List UInt8} (h:2≤runL c s):s.take 2=[c,c]:=by
 have h1:=runL_take c s
 have h2:=congrArg (List.take 2) h1
 rw [List.take_take,List.take_replicate,Nat.min_eq_left h] at h2
 exact h2
theorem idxF_at (t:List UInt8):∀ (s:List UInt8) (i k:Nat),idxF t s i=some k→t.isPrefixOf (s.drop (k-i))=true
 | [],i,k,h=>by
   simp only [idxF] at h
   split at h
   ·rename_i h0; simp at h; subst h; simp [h0]
   ·simp at h
 | x::r,i,k,h=>by
   simp only [idxF] at h
   split at h
   ·rename_i hp; simp at h; subst h; simpa using hp
   ·have h1:=idxF_at t r (i+1) k h
    have h2:=(idxF_le t r (i+1) k h).1
    have:k-i=(k-(i+1))+1:=by omega
    rw [this]; simpa using h1
theorem tagTok_fst {s:List UInt8} (h:(tagTok s).1≠0):Fst s (tagTok s):=by
 unfold tagTok at h ⊢
 split
 ·rename_i h1
  obtain ⟨a,b,c⟩:=tagAt_spec h1
  exact ⟨by simp [tagO],len_prefix c,by simp,by simp,by simp,by simp,fun _=>⟨_,a,b,take_prefix c⟩,by simp,by simp,by simp,by simp,by simp⟩
 ·split
  ·rename_i h1
   obtain ⟨a,b,c⟩:=tagAt_spec h1
   exact ⟨by simp [tagC],len_prefix c,by simp,by simp,by simp,by simp,by simp,fun _=>⟨_,a,b,take_prefix c⟩,by simp,by simp,by simp,by simp⟩
  ·simp_all
theorem angleF_fst {s:List UInt8} (h:(angleF s).1≠0):Fst s (angleF s):=by
 unfold angleF at h ⊢
 split
 ·rename_i h1
  have hl:=len_prefix h1
  simp only [List.length_cons,List.length_nil] at hl
  cases hk:idxF [45,45,62] (s.drop 4) 0 with
  | some k =>
    obtain ⟨_,h2⟩:=idxF_le _ _ _ _ hk
    simp only [List.length_drop,List.length_cons,List.length_nil] at h2
    exact ⟨by simp,by simp; omega,by simp,by simp,by simp,by simp,by simp,by simp,by simp,by simp,by simp,by simp⟩
  | none=>exact ⟨by simp; omega,by simp,by simp,by simp,by simp,by simp,by simp,by simp,by simp,by simp,by simp,by simp⟩
 ·split
  ·rename_i h0 h1
   have hl:=len_prefix h1
   simp only [nowikiO,List.length_cons,List.length_nil] at hl
   cases hk:idxF nowikiC (s.drop 8) 0 with
   | some k =>
     obtain ⟨_,h2⟩:=idxF_le _ _ _ _ hk
     have h3:=idxF_at _ _ _ _ hk
     simp only [List.drop_drop,Nat.sub_zero] at h3
     simp only [nowikiC,List.length_drop,List.length_cons,List.length_nil] at h2
     refine ⟨by simp <;> omega,by simp <;> omega,by simp,fun _=>⟨by simp <;> omega,h1,?_⟩,by simp,by simp,by simp,by simp,by simp,by simp,by simp,by simp⟩
     simp only [Nat.add_sub_cancel]; exact h3
   | none =>
     have:(tagTok s).1≠0:=by simp_all
     exact tagTok_fst this
  ·have:(tagTok s).1≠0:=by simp_all
   exact tagTok_fst this
theorem firstF_fst {s:List UInt8} (h:(firstF s).1≠0):Fst s (firstF s):=by
 cases s with
 | nil=>simp [firstF] at h
 | cons c r =>
   have rl:=runL_le
   have one:1≤(c::r).length:=by simp
   simp only [firstF] at h ⊢
   split
   ·rename_i hc; rw [if_pos hc] at h; exact angleF_fst h
   rename_i hc; rw [if_neg hc] at h
   split
   ·rename_i hc; rw [if_pos hc] at h
    split
    ·rename_i h2; exact ⟨by simp; omega,rl _ _,by simp,by simp,fun _=>⟨h2,runL_take _ _⟩,by simp,by simp,by simp,by simp,by simp,by simp,by simp⟩
    ·rename_i hn; rw [if_neg hn] at h; exact absurd rfl h
   rename_i hc; rw [if_neg hc] at h
   split
   ·rename_i hc; rw [if_pos hc] at h
    split
    ·rename_i h2; exact ⟨by simp; omega,rl _ _,by simp,by simp,by simp,fun _=>⟨h2,runL_take _ _⟩,by simp,by simp,by simp,by simp,by simp,by simp⟩
    ·rename_i hn; rw [if_neg hn] at h; exact absurd rfl h
   rename_i hc; rw [if_neg hc] at h
   split
   ·rename_i hc; rw [if_pos hc] at h
    split
    ·rename_i h2; exact ⟨by simp,Nat.le_trans h2 (rl _ _),by simp,by simp,by simp,by simp,by simp,by simp,fun _=>runL_two h2,by simp,by simp,by simp⟩
    ·rename_i hn; rw [if_neg hn] at h; exact absurd rfl h
   rename_i hc; rw [if_neg hc] at h
   split
   ·rename_i hc; rw [if_pos hc] at h
    split
    ·rename_i h2; exact ⟨by simp,Nat.le_trans h2 (rl _ _),by simp,by simp,by simp,by simp,by simp,by simp,by simp,fun _=>runL_two h2,by simp,by simp⟩
    ·rename_i hn; rw [if_neg hn] at h; exact absurd rfl h
   rename_i hc; rw [if_neg hc] at h
   split
   ·rename_i h2; subst h2; exact ⟨by simp,one,by simp,by simp,by simp,by simp,by simp,by simp,by simp,by simp,fun _=>rfl,by simp⟩
   rename_i hc; rw [if_neg hc] at h
   split
   ·rename_i h2; subst h2; exact ⟨by simp,one,by simp,by simp,by simp,by simp,by simp,by simp,by simp,by simp,by simp,fun _=>rfl⟩
   rename_i hc; rw [if_neg hc] at h
   split
   ·exact ⟨by simp,one,by simp,by simp,by simp,by simp,by simp,by simp,by simp,by simp,by simp,by simp⟩
   rename_i hc; rw [if_neg hc] at h
   exact absurd rfl h
structure Tok.good (s:List UInt8) (t:Tok):Prop where
 lt:t.fr<t.to
 le:t.to≤s.length
 txt:t.kind=1∨Fst (s.drop t.fr) (t.kind,t.to-t.fr)
theorem Tok.text_eq {s:List UInt8} {t:Tok}:t.text s=(s.drop t.fr).take (t.to-t.fr):=by
 simp [Tok.text,List.drop_take]
theorem Tok.good.tagO {s:List UInt8} {t:Tok} (h:t.good s) (hk:t.kind=11):∃ k,1≤k∧k≤3∧t.text s=Go.Ab.tagO k:=by
 rcases h.txt with h1 | h1
 ·omega
 ·obtain ⟨k,a,b,c⟩:=h1.tagO hk
  exact ⟨k,a,b,by rw [Tok.text_eq]; exact c⟩
theorem Tok.good.tagC {s:List UInt8} {t:Tok} (h:t.good s) (hk:t.kind=12):∃ k,1≤k∧k≤3∧t.text s=Go.Ab.tagC k:=by
 rcases h.txt with h1 | h1
 ·omega
 ·obtain ⟨k,a,b,c⟩:=h1.tagC hk
  exact ⟨k,a,b,by rw [Tok.text_eq]; exact c⟩
theorem Tok.good.wf {s:List UInt8} {t:Tok} (h:t.good s):t.wf s:=by
 have hl:=Tok.text_length h.le
 refine ⟨?_,h.lt,h.le,fun hk=>?_,fun hk=>?_,fun hk=>?_,h.tagO,h.tagC⟩
 ·rcases h.txt with h | h
  ·omega
  ·exact ⟨by have:=h.kind.1; simp at this; omega,h.kind.2⟩
 ·rcases h.txt with h1 | h1
  ·omega
  ·have:=(h1.wiki hk).1; simp at this; omega
 ·rcases h.txt with h1 | h1
  ·omega
  ·obtain ⟨k,a,b,c⟩:=h1.tagO hk
   have:t.tag s=k:=by
    rw [Tok.tag,if_pos hk,Tok.text_eq]
    simp only at c
    rw [c]; exact tagAt_O k a b
   omega
 ·rcases h.txt with h1 | h1
  ·omega
  ·have:=(h1.open_ hk).1; simp at this; omega
theorem scanF_good (s:List UInt8):∀ (n t i:Nat),t≤i→i≤s.length→(∀ x,x∈scanF s n t i→x.good s)∧lenT (scanF s n t i)≤s.length-t
 | 0,t,i,_,_=>by simp [scanF,lenT]
 | n+1,t,i,h1,h2=>by
   rw [scanF]
   split
   ·rename_i hi
    split
    ·obtain ⟨g1,g2⟩:=scanF_good s n t (i+1) (by omega) (by omega)
     exact ⟨g1,g2⟩
    ·rename_i hf
     have fs:=firstF_fst hf
     have hle:=fs.le
     have hpos:=fs.pos
     rw [List.length_drop] at hle
     obtain ⟨g1,g2⟩:=scanF_good s n (i+(firstF (s.drop i)).2) (i+(firstF (s.drop i)).2) (Nat.le_refl _) (by omega)
     constructor
     ·intro x hx
      simp only [List.mem_append,List.mem_cons] at hx
      rcases hx with hx | rfl | hx
      ·split at hx
       ·simp only [List.mem_singleton] at hx
        subst hx
        exact ⟨by assumption,by simp; omega,.inl rfl⟩
       ·simp at hx
      ·exact ⟨by simp; omega,by simp; omega,.inr (by simpa using fs)⟩
      ·exact g1 x hx
     ·rw [lenT_append]
      have:lenT (if t<i then [⟨1,t,i⟩] else [])=i-t:=by
       split
       ·simp [lenT]
       ·simp [lenT]; omega
      rw [this]
      simp only [lenT]
      omega
   ·split
    ·rename_i hi ht
     constructor
     ·intro x hx
      simp only [List.mem_singleton] at hx
      subst hx
      exact ⟨ht,Nat.le_refl _,.inl rfl⟩
     ·simp [lenT]
    ·simp [lenT]
theorem scan_good (s:List UInt8):(∀ x,x∈scan s→x.good s)∧lenT (scan s)≤s.length:=by
 have:=scanF_good s (s.length+1) 0 0 (Nat.le_refl _) (Nat.zero_le _)
 simpa [scan] using this
end Go.Ab
namespace Go.Ab
variable {P:Program} {F T:Nat→Nat}
end Go.Ab
