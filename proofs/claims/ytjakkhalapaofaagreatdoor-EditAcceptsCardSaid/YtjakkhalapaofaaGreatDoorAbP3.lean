/- Several texts of one kind, merged. No condition. -/
import Derived.Test.YtjakkhalapaofaaGreatDoorAbP2
import Derived.Test.YtjakkhalapaofaaGreatDoorAbP1
set_option linter.unusedSimpArgs false
set_option linter.unusedVariables false
namespace Go.Ab
theorem SInv.drop {els els':List El} {k:Nat} (h:SInv els) (he:kc els'=(kc els).drop k) (hk:k<els.length):SInv els':=by
 obtain ⟨a,ha⟩:=h.root
 have hl:els.length=a.length+1:=by
  have:=congrArg List.length ha
  simpa [kc] using this
 refine ⟨h.cn.drop he,a.drop k,?_⟩
 rw [he,ha,List.drop_append_of_le_length (by omega)]
theorem SInv.same {els els':List El} (h:SInv els) (he:kc els'=kc els):SInv els':=⟨fun q hq=>h.cn q (he ▸ hq),by rw [he]; exact h.root⟩
theorem SInv.push {els els':List El} {q:Nat×Nat} (h:SInv els) (he:kc els'=q::kc els) (hq:q.1=3→2≤q.2):SInv els':=by
 obtain ⟨a,ha⟩:=h.root
 refine ⟨fun x hx=>?_,q::a,by rw [he,ha]; rfl⟩
 rw [he] at hx
 rcases List.mem_cons.1 hx with rfl | hx
 ·exact hq
 ·exact h.cn x hx
theorem tagIdx_lt {t:Nat} {els:List El} {k:Nat} (h:tagIdx t els=some k):k+1<els.length:=by
 rcases lastT_idx t els with ⟨g,_⟩ | ⟨j,g1,g2,g3⟩
 ·rw [g] at h; simp at h
 ·rw [g1] at h; simp at h; omega
theorem braceIdx_lt {els:List El} {k:Nat} (h:braceIdx els=some k):k+1<els.length:=by
 rcases lastB_idx els with ⟨g,_⟩ | ⟨j,g1,g2,g3⟩
 ·rw [g] at h; simp at h
 ·rw [g1] at h; simp at h; omega
theorem flatN_cons {k:Nat} {els:List El} (h:k<els.length):∃ e r,flatN k els=e::r∧kc (e::r)=(kc els).drop k∧r.length+k+1=els.length:=by
 have hl:=flatN_length k (els:=els)
 cases hf:flatN k els with
 | nil=>rw [hf] at hl; simp at hl; omega
 | cons e r =>
   refine ⟨e,r,rfl,by rw [← hf]; exact kc_flatN k,?_⟩
   rw [hf] at hl; simp at hl; omega
def lenT:List Tok→Nat
 | []=>0
 | t::r=>(t.to-t.fr)+lenT r
theorem lenT_append (a b:List Tok):lenT (a++b)=lenT a+lenT b:=by
 induction a with
 | nil=>simp [lenT]
 | cons x r ih=>simp [lenT,ih]; omega
end Go.Ab
namespace Go.Ab
variable {P:Program} {F T:Nat→Nat}
def tvs (l:List Tok):List V:=l.map fun t=>.agg t.vs
theorem tvs_length (l:List Tok):(tvs l).length=l.length:=by simp [tvs]
theorem imms_tvs (l:List Tok):V.imms (tvs l)=true:=imms_map _ _ fun t=>by simp [Tok.vs,V.imm,V.imms]
theorem tvs_at (a:List Tok) (t:Tok) (r:List Tok):(tvs (a++t::r)).getD a.length .junk=.agg t.vs:=by
 simp only [tvs,List.map_append,List.map_cons]
 exact getD_mid (by simp)
attribute [push_cast] tvs_length imms_tvs tvs_at
theorem view2_own {L:Heap} {i ty z sz:Nat} {es:List V} (h:L i=some (.vec ty z es)) (hi:V.imms es=true):view L 2 (.own i sz 0 es.length)=.lst sz es:=by
 simp only [view,h,Nat.zero_add,Nat.le_refl,if_true,List.drop_zero,List.take_length]
 rw [show es.map (view L 1)=es.map id from List.map_congr_left fun x hx=>view_imm 1 x (imms_mem hi hx),List.map_id]
end Go.Ab
namespace Go.Ab
def c68 (F T:Nat→Nat):C :=
 .n [.box 3 (T 8) (.t 1),.mov (some 4) (.s [])] <|
 .seq (.seq (.ops false [⟨none,[.f 5 1 3,.l 6 5,.bi 7 .lss 6 0,.m 8 7]⟩,
 ⟨some (8,false),[.f 9 1 3,.l 10 9,.f 11 2 3,.l 12 11,.b 13 .gtr 10 12]⟩,
 ⟨none,[.pt 14 8 13,.m 15 14]⟩,
 ⟨some (15,false),[.f 16 2 3,.l 17 16,.m 18 0,.ls 19 18,.b 20 .gtr 17 19]⟩,
 ⟨none,[.pt 21 15 20]⟩]) <|
 .cond (.t 21)
 (.n [.mov (some 4) (.s [])] <|
 .ret)
 (.skip)) <|
 .n [.m 22 0,.f 23 1 3,.l 24 23,.f 25 2 3,.l 26 25,.slcS (some 27) (.t 22) (some (.t 24)) (some (.t 26)),.m 4 27] <|
 .ret
abbrev Is68 (P:Program) (F T:Nat→Nat):Prop:=Fn P (F 68) 28 [(4,none)] (c68 F T)
def c72 (F T:Nat→Nat):C :=
 .n [.box 3 (T 8) (.t 1),.mov (some 4) (.i 0)] <|
 .n [.mov (some 5) (.s [60])] <|
 .seqc (.n [.f 9 0 3,.l 10 9] <|
 .block 0 <|
 .n [.bi 12 .eql 10 11,.m 11 12] <|
 .cond (.t 11)
 (.skip)
 (.n [.bi 14 .eql 10 12,.m 13 14] <|
 .cond (.t 13)
 (.o [.mov (some 5) (.s [60,47])])
 (.n [.mov (some 4) (.i 0)] <|
 .ret))) <|
 .n [.m 15 0,.load (some 16) false 3 true (.t 3),.c 17 (F 68) [.t 15,.t 16],.m 6 17] <|
 .seq (.n [.m 19 6,.m 20 5,.c 21 (F 107) [.t 19,.t 20],.m 18 21,.x 22 0 18,.x 23 1 18,.m 7 22,.m 8 23] <|
 .n [.m 24 8,.m 25 6,.ls 26 25,.b 27 .eql 24 26] <|
 .cond (.t 27)
 (.n [.m 28 7,.m 4 28] <|
 .ret)
 (.skip)) <|
 .n [.mov (some 4) (.i 0)] <|
 .ret
abbrev Is72 (P:Program) (F T:Nat→Nat):Prop:=Fn P (F 72) 29 [(4,none)] (c72 F T)
def c97 (F T:Nat→Nat):C :=
 .n [.mov (some 4) (.k (.bool false))] <|
 .n [.m 5 0,.m 6 1,.c 7 (F 98) [.t 5,.t 6],.m 4 7] <|
 .ret
abbrev Is97 (P:Program) (F T:Nat→Nat):Prop:=Fn P (F 97) 8 [(4,none)] (c97 F T)
def c98 (F T:Nat→Nat):C :=
 .n [.mov (some 4) (.k (.bool false))] <|
 .seq (.ops false [⟨none,[.m 5 0,.ls 6 5,.m 7 1,.ls 8 7,.b 9 .geq 6 8,.m 10 9]⟩,
 ⟨some (10,true),[.m 11 0,.m 12 1,.ls 13 12,.slcS (some 14) (.t 11) none (some (.t 13)),.m 15 1,.b 16 .eql 14 15]⟩,
 ⟨none,[.pf 17 10 16,.m 4 17]⟩]) <|
 .ret
abbrev Is98 (P:Program) (F T:Nat→Nat):Prop:=Fn P (F 98) 18 [(4,none)] (c98 F T)
def c105 (F T:Nat→Nat):C :=
 .n [.mov (some 4) (.i 0)] <|
 .n [.mov (some 5) (.i 0)] <|
 .seq (.block 0 <|
 .loop <|
 .seq (.seq (.ops false [⟨none,[.m 6 5,.m 7 0,.ls 8 7,.b 9 .lss 6 8,.m 10 9]⟩,
 ⟨some (10,true),[.m 11 0,.m 12 5,.ix 13 11 12,.m 14 1,.b 15 .eql 13 14]⟩,
 ⟨none,[.pf 16 10 15]⟩]) <|
 .cond (.t 16)
 (.skip)
 (.exit 0)) <|
 .block 1 <|
 .o [.m 17 5,.bi 18 .add 17 1,.m 5 18]) <|
 .n [.m 19 5,.m 4 19] <|
 .ret
abbrev Is105 (P:Program) (F T:Nat→Nat):Prop:=Fn P (F 105) 20 [(4,none)] (c105 F T)
def c107 (F T:Nat→Nat):C :=
 .n [.mov (some 4) (.i 0),.mov (some 5) (.i 0)] <|
 .seq (.n [.c 9 (F 116) [],.mov (some 10) (.i 0)] <|
 .block 0 <|
 .loop <|
 .n [.bi 11 .lss 10 3] <|
 .seq (.cond (.t 11)
 (.skip)
 (.exit 0)) <|
 .seq (.block 1 <|
 .n [.m 12 10,.idxA (some 13) 3 1 false (.t 9) (.t 10),.m 6 12,.m 7 13] <|
 .n [.m 14 1,.m 15 7,.b 16 .add 14 15,.bin (some 17) .add (.t 16) (.s [62]),.m 8 17] <|
 .n [.m 18 0,.m 19 8,.c 20 (F 97) [.t 18,.t 19]] <|
 .cond (.t 20)
 (.n [.m 21 6,.bi 22 .add 21 1,.m 23 8,.ls 24 23,.m 4 22,.m 5 24] <|
 .ret)
 (.skip)) <|
 .o [.bi 25 .add 10 1,.m 10 25]) <|
 .n [.mov (some 4) (.i 0),.mov (some 5) (.i 0)] <|
 .ret
abbrev Is107 (P:Program) (F T:Nat→Nat):Prop:=Fn P (F 107) 26 [(4,none),(5,none)] (c107 F T)
def c116 (F T:Nat→Nat):C :=
 .n [.alloc 0 (T 13) [(.str []),(.str []),(.str [])]] <|
 .n [.build (some 1) [(.str []),(.str []),(.str [])] [(0,1,(.s [110,111,105,110,99,108,117,100,101])),(1,1,(.s [105,110,99,108,117,100,101,111,110,108,121])),(2,1,(.s [111,110,108,121,105,110,99,108,117,100,101]))],.store 3 (.t 0) (.t 1)] <|
 .ret
abbrev Is116 (P:Program) (F T:Nat→Nat):Prop:=Fn P (F 116) 2 [(0,(some (3,true)))] (c116 F T)
end Go.Ab
namespace Go.Ab
variable {P:Program} {F T:Nat→Nat}
theorem prefix_take (s t:List UInt8):t.isPrefixOf s=(decide (t.length≤s.length)&&decide (s.take t.length=t)):=by
 by_cases h:t <+: s
 ·have h1:t.isPrefixOf s=true:=List.isPrefixOf_iff_prefix.2 h
  rw [h1]
  simp [h.length_le]
  exact (List.prefix_iff_eq_take.1 h).symm
 ·have h1:t.isPrefixOf s=false:=by
   cases hb:t.isPrefixOf s with
   | false=>rfl
   | true=>exact absurd (List.isPrefixOf_iff_prefix.1 hb) h
  rw [h1]
  symm
  simp only [Bool.and_eq_false_iff,decide_eq_false_iff_not]
  right
  intro e
  exact h (List.prefix_iff_eq_take.2 e.symm)
theorem t98 (hf:Is98 P F T) (s t:List UInt8):PTr P (F 98) [.str s,.str t] (.bool (t.isPrefixOf s)):=by
 refine ptrC [] hf (by simp) rfl ?_
 simp only [c98,push_cast,seval,-Nat.reducePow]
 refine condK_dec (fun h=>?_) (fun h=>?_)
 ·have h':t.length≤s.length:=by omega
  simp only [push_cast,seval,-Nat.reducePow,view]
  exact ⟨by omega,by rw [prefix_take]; simp [h']⟩
 ·have h':¬ t.length≤s.length:=by omega
  simp only [push_cast,seval,-Nat.reducePow,view]
  rw [prefix_take]; simp [h']
theorem t97 (hf:Is97 P F T) (h98:Is98 P F T) (s t:List UInt8):PTr P (F 97) [.str s,.str t] (.bool (t.isPrefixOf s)):=by
 refine ptrC [] hf (by simp) rfl ?_
 simp only [c97,push_cast,seval,-Nat.reducePow]
 refine callK_intro (t98 h98 s t) (by simp only [push_cast,seval,-Nat.reducePow]) (by simp only [push_cast,seval,-Nat.reducePow]) ?_
 simp only [push_cast,seval,-Nat.reducePow,view]
theorem runL_drop (c:UInt8) (s:List UInt8) (n:Nat) (hn:n<s.length) (hc:s.getD n 0=c) (h:runL c s=n+runL c (s.drop n)):runL c s=(n+1)+runL c (s.drop (n+1)):=by
 rw [h,List.drop_eq_getElem_cons hn]
 have:s[n]=c:=by simpa [List.getD,hn] using hc
 simp [runL,this]; omega
theorem u8_eq {a b:UInt8} (h:((a.toNat:Nat):Int)=((b.toNat:Nat):Int)):a=b:=UInt8.toNat_inj.1 (by omega)
theorem t105 (hf:Is105 P F T) (s:List UInt8) (c:UInt8) (hs:s.length<2^62):PTr P (F 105) [.str s,.int .u8 c.toNat] (.int .i64 (runL c s)):=by
 refine ptrC [] hf (by simp) rfl ?_
 simp only [c105,push_cast,seval,-Nat.reducePow]
 refine loopK_intro (fun m s1=>∃ n,n≤s.length∧m=s.length-n∧s1.env 0=.str s∧s1.env 1=.int .u8 c.toNat∧s1.env 5=.int .i64 n∧runL c s=n+runL c (s.drop n)) s.length ⟨0,?_⟩ fun m s1 hJ=>?_
 ·simp only [push_cast,seval,-Nat.reducePow,Nat.sub_zero,List.drop_zero]
 ·obtain ⟨n,hn,rfl,j0,j1,j5,hr⟩:=hJ
  simp only [push_cast,seval,-Nat.reducePow,j0,j1,j5]
  refine condK_dec (fun h=>?_) (fun h=>?_)
  ·have h':n<s.length:=by omega
   simp only [push_cast,seval,-Nat.reducePow,j0,j1,j5]
   refine ⟨by omega,?_⟩
   refine condK_dec (fun hc=>?_) (fun hc=>?_)
   ·have hc':=u8_eq hc
    simp only [push_cast,seval,-Nat.reducePow,j0,j1,j5]
    refine ⟨by omega,s.length-(n+1),by omega,n+1,by omega,rfl,by simp,?_⟩
    exact runL_drop c s n h' hc' hr
   ·simp only [push_cast,seval,-Nat.reducePow,j0,j1,j5,view]
    have hne:s[n]≠c:=fun e=>hc (by rw [show s.getD n 0=s[n] by simp [List.getD,h'],e])
    rw [hr,List.drop_eq_getElem_cons h']
    simp [runL,hne]
  ·have h':n=s.length:=by omega
   simp only [push_cast,seval,-Nat.reducePow,j0,j1,j5,view]
   rw [hr,h',List.drop_length]
   simp [runL]
theorem t116 (hf:Is116 P F T):PTr P (F 116) [] (.agg [.str (tagName 1),.str (tagName 2),.str (tagName 3)]):=by
 refine ptrC [] hf (by simp) rfl ?_
 simp only [c116,push_cast,seval,-Nat.reducePow]
 simp [view,tagName]
def tagP (o:List UInt8) (t:Nat):List UInt8:=o++tagName t++[62]
def tagR (o s:List UInt8):V:=.tup [.int .i64 (tagAt (tagP o) s),.int .i64 (if tagAt (tagP o) s=0 then 0 else (tagP o (tagAt (tagP o) s)).length:Nat)]
theorem t107 (hf:Is107 P F T) (h97:Is97 P F T) (h98:Is98 P F T) (h116:Is116 P F T) (s o:List UInt8) (ho:o.length≤2):PTr P (F 107) [.str s,.str o] (tagR o s):=by
 refine ptrC [] hf (by simp) rfl ?_
 simp only [c107,push_cast,seval,-Nat.reducePow]
 refine callK_intro (t116 h116) (by simp only [push_cast,seval,-Nat.reducePow]) (by simp only [push_cast,seval,-Nat.reducePow]) ?_
 refine loopK_intro (fun m s1=>∃ n,n≤3∧m=3-n∧s1.env 0=.str s∧s1.env 1=.str o∧s1.env 9=.agg [.str (tagName 1),.str (tagName 2),.str (tagName 3)]∧s1.env 10=.int .i64 n∧(∀ j,j<n→(tagP o (j+1)).isPrefixOf s=false)) 3 ⟨0,?_⟩ fun m s1 hJ=>?_
 ·simp only [push_cast,seval,-Nat.reducePow]
  exact fun j hj=>by omega
 ·obtain ⟨n,hn,rfl,j0,j1,j9,j10,hr⟩:=hJ
  have hn4:n=0∨n=1∨n=2∨n=3:=by omega
  rcases hn4 with rfl | rfl | rfl | rfl
  ·have hl:(tagName 1).length≤11:=by simp [tagName]
   skip
   simp only [push_cast,seval,-Nat.reducePow,j0,j1,j9,j10]
   refine ⟨by omega,by simp; omega,?_⟩
   refine callK_intro (t97 h97 h98 s (o++tagName 1++[62])) (by simp only [push_cast,seval,-Nat.reducePow]) (by simp only [push_cast,seval,-Nat.reducePow]) ?_
   simp only [push_cast,seval,-Nat.reducePow]
   refine condK_intro (fun hb=>?_) (fun hb=>?_)
   ·simp only [push_cast,seval,-Nat.reducePow,j0,j1,j9,j10,view]
    have e:tagAt (tagP o) s=1:=by simp only [tagAt]; rw [if_pos (show (tagP o 1).isPrefixOf s=true from hb)]
    simp only [tagR,e,tagP]
    simp
   ·simp only [push_cast,seval,-Nat.reducePow,j0,j1,j9,j10]
    refine ⟨3-1,by omega,1,by omega,rfl,rfl,fun j hj=>?_⟩
    have hb':(tagP o 1).isPrefixOf s=false:=hb
    have:j=0:=by omega
    rcases this with rfl
    exact hb'
  ·have hl:(tagName 2).length≤11:=by simp [tagName]
   have q0:=hr 0 (by omega)
   simp only [push_cast,seval,-Nat.reducePow,j0,j1,j9,j10]
   refine ⟨by omega,by simp; omega,?_⟩
   refine callK_intro (t97 h97 h98 s (o++tagName 2++[62])) (by simp only [push_cast,seval,-Nat.reducePow]) (by simp only [push_cast,seval,-Nat.reducePow]) ?_
   simp only [push_cast,seval,-Nat.reducePow]
   refine condK_intro (fun hb=>?_) (fun hb=>?_)
   ·simp only [push_cast,seval,-Nat.reducePow,j0,j1,j9,j10,view]
    have e:tagAt (tagP o) s=2:=by simp only [tagAt,q0]; rw [if_pos (show (tagP o 2).isPrefixOf s=true from hb)] <;> rfl
    simp only [tagR,e,tagP]
    simp
   ·simp only [push_cast,seval,-Nat.reducePow,j0,j1,j9,j10]
    refine ⟨3-2,by omega,2,by omega,rfl,rfl,fun j hj=>?_⟩
    have hb':(tagP o 2).isPrefixOf s=false:=hb
    have:j=0∨j=1:=by omega
    rcases this with rfl | rfl
    ·exact q0
    ·exact hb'
  ·have hl:(tagName 3).length≤11:=by simp [tagName]
   have q0:=hr 0 (by omega)
   have q1:=hr 1 (by omega)
   simp only [push_cast,seval,-Nat.reducePow,j0,j1,j9,j10]
   refine ⟨by omega,by simp; omega,?_⟩
   refine callK_intro (t97 h97 h98 s (o++tagName 3++[62])) (by simp only [push_cast,seval,-Nat.reducePow]) (by simp only [push_cast,seval,-Nat.reducePow]) ?_
   simp only [push_cast,seval,-Nat.reducePow]
   refine condK_intro (fun hb=>?_) (fun hb=>?_)
   ·simp only [push_cast,seval,-Nat.reducePow,j0,j1,j9,j10,view]
    have e:tagAt (tagP o) s=3:=by simp only [tagAt,q0,q1]; rw [if_pos (show (tagP o 3).isPrefixOf s=true from hb)] <;> rfl
    simp only [tagR,e,tagP]
    simp
   ·simp only [push_cast,seval,-Nat.reducePow,j0,j1,j9,j10]
    refine ⟨3-3,by omega,3,by omega,rfl,rfl,fun j hj=>?_⟩
    have hb':(tagP o 3).isPrefixOf s=false:=hb
    have:j=0∨j=1∨j=2:=by omega
    rcases this with rfl | rfl | rfl
    ·exact q0
    ·exact q1
    ·exact hb'
  ·have q0:=hr 0 (by omega)
   have q1:=hr 1 (by omega)
   have q2:=hr 2 (by omega)
   simp only [push_cast,seval,-Nat.reducePow,j0,j1,j9,j10,view]
   have e:tagAt (tagP o) s=0:=by
    simp only [Nat.zero_add,Nat.reduceAdd] at q0 q1 q2
    simp [tagAt,q0,q1,q2]
   simp [tagR,e]
theorem idxF_le (t:List UInt8):∀ (s:List UInt8) (i k:Nat),idxF t s i=some k→i≤k∧k+t.length≤i+s.length
 | [],i,k,h=>by
   simp only [idxF] at h
   split at h
   ·rename_i h0; simp at h; subst h; simp [h0]
   ·simp at h
 | x::r,i,k,h=>by
   simp only [idxF] at h
   split at h
   ·rename_i hp
    simp at h; subst h
    have:=(List.isPrefixOf_iff_prefix.1 hp).length_le
    exact ⟨Nat.le_refl _,by omega⟩
   ·obtain ⟨h1,h2⟩:=idxF_le t r (i+1) k h
    simp only [List.length_cons]; omega
theorem tagP_O:tagP [60]=tagO:=rfl
theorem tagP_C:tagP [60,47]=tagC:=rfl
theorem t68 (hf:Is68 P F T) (s:List UInt8) (t:Tok) (h1:t.fr≤t.to) (h2:t.to≤s.length) (h3:s.length≤8192):PTr P (F 68) [.str s,.agg t.vs] (.str (t.text s)):=by
 refine ptrC [] hf (by simp) rfl ?_
 have e1:¬ ((t.fr:Nat):Int)<0:=by omega
 have e2:¬ ((t.to:Nat):Int)<(t.fr:Nat):=by omega
 have e3:¬ ((s.length:Nat):Int)<(t.to:Nat):=by omega
 simp only [c68,push_cast,seval,-Nat.reducePow,Tok.vs,e1,e2,e3]
 exact ⟨by omega,by omega,rfl⟩
end Go.Ab
namespace Go.Ab
variable {P:Program} {F T:Nat→Nat}
theorem tagAt_O (k:Nat) (a:1≤k) (b:k≤3):tagAt tagO (tagO k)=k:=by
 obtain rfl | rfl | rfl:k=1∨k=2∨k=3:=by omega
 all_goals simp [tagAt,tagO,tagName]
theorem tagAt_C (k:Nat) (a:1≤k) (b:k≤3):tagAt tagC (tagC k)=k:=by
 obtain rfl | rfl | rfl:k=1∨k=2∨k=3:=by omega
 all_goals simp [tagAt,tagC,tagName]
theorem t72 (hf:Is72 P F T) (h68:Is68 P F T) (h107:Is107 P F T) (h97:Is97 P F T) (h98:Is98 P F T) (h116:Is116 P F T) (s:List UInt8) (t:Tok) (h1:t.fr≤t.to) (h2:t.to≤s.length) (h3:s.length≤8192) (hx:t.kind=11→∃ k,1≤k∧k≤3∧t.text s=tagO k) (hy:t.kind=12→∃ k,1≤k∧k≤3∧t.text s=tagC k) :
 PTr P (F 72) [.str s,.agg t.vs] (.int .i64 (t.tag s)):=by
 refine ptrC [] hf (by simp) rfl ?_
 simp only [c72,push_cast,seval,-Nat.reducePow,Tok.vs]
 refine cutK_intro (fun s1=>∃ o,s1.env 0=.str s∧s1.env 3=.ptr 3 0∧s1.env 5=.str o∧s1.L 3=some (.box (T 8) t.vs)∧((t.kind=11∧o=[60])∨(t.kind=12∧o=[60,47]))) ?_ ?_
 ·simp only [push_cast,seval,-Nat.reducePow]
  refine condK_dec (fun h=>?_) (fun h=>?_)
  ·have hk:t.kind=11:=by omega
   simp only [push_cast,seval,-Nat.reducePow]
   exact ⟨[60],rfl,by simp only [Tok.vs],.inl ⟨hk,rfl⟩⟩
  ·have hk:t.kind≠11:=by omega
   simp only [push_cast,seval,-Nat.reducePow]
   refine condK_dec (fun h=>?_) (fun h=>?_)
   ·have hk:t.kind=12:=by omega
    simp only [push_cast,seval,-Nat.reducePow]
    exact ⟨[60,47],rfl,by simp only [Tok.vs],.inr ⟨hk,rfl⟩⟩
   ·have hk2:t.kind≠12:=by omega
    simp only [push_cast,seval,-Nat.reducePow]
    simp [view,Tok.tag,hk,hk2]
 ·rintro s1 ⟨o,j0,j3,j5,jL,ho⟩
  have ho2:o.length≤2:=by rcases ho with ⟨_,rfl⟩ | ⟨_,rfl⟩ <;> simp
  simp only [push_cast,seval,-Nat.reducePow,j0,j3,j5,jL,Tok.vs]
  refine callK_intro (t68 h68 s t h1 h2 h3) (by simp only [push_cast,seval,-Nat.reducePow,Tok.vs]) (by simp only [push_cast,seval,-Nat.reducePow]) ?_
  simp only [push_cast,seval,-Nat.reducePow,j0,j3,j5]
  refine callK_intro (t107 h107 h97 h98 h116 (t.text s) o ho2) (by simp only [push_cast,seval,-Nat.reducePow]) (by simp only [push_cast,seval,-Nat.reducePow,tagR]) ?_
  rcases ho with ⟨hk,rfl⟩ | ⟨hk,rfl⟩
  ·obtain ⟨k,k1,k2,k3⟩:=hx hk
   have e1:tagAt tagO (t.text s)=k:=by rw [k3]; exact tagAt_O k k1 k2
   have e0:k≠0:=by omega
   simp only [push_cast,seval,-Nat.reducePow,tagR,tagP_O,e1,e0]
   refine condK_dec (fun h=>?_) (fun h=>absurd (by rw [k3]) h)
   simp only [push_cast,seval,-Nat.reducePow]
   simp [view,Tok.tag,hk,e1]
  ·obtain ⟨k,k1,k2,k3⟩:=hy hk
   have e1:tagAt tagC (t.text s)=k:=by rw [k3]; exact tagAt_C k k1 k2
   have e0:k≠0:=by omega
   simp only [push_cast,seval,-Nat.reducePow,tagR,tagP_C,e1,e0]
   refine condK_dec (fun h=>?_) (fun h=>absurd (by rw [k3]) h)
   simp only [push_cast,seval,-Nat.reducePow]
   simp [view,Tok.tag,hk,e1]
end Go.Ab
namespace Go.Ab
theorem runL_le (c:UInt8):∀ s:List UInt8,runL c s≤s.length
 | []=>by simp [runL]
 | x::r=>by simp only [runL,List.length_cons]; have:=runL_le c r; split <;> omega
theorem tagAt_spec {o:Nat→List UInt8} {s:List UInt8} (h:tagAt o s≠0):1≤tagAt o s∧tagAt o s≤3∧(o (tagAt o s)).isPrefixOf s=true:=by
 unfold tagAt at h ⊢
 split
 ·rename_i h1; exact ⟨by omega,by omega,h1⟩
 ·split
  ·rename_i h1; exact ⟨by omega,by omega,h1⟩
  ·split
   ·rename_i h1; exact ⟨by omega,by omega,h1⟩
   ·simp_all
theorem take_prefix {t s:List UInt8} (h:t.isPrefixOf s=true):s.take t.length=t:=(List.prefix_iff_eq_take.1 (List.isPrefixOf_iff_prefix.1 h)).symm
theorem len_prefix {t s:List UInt8} (h:t.isPrefixOf s=true):t.length≤s.length:=(List.isPrefixOf_iff_prefix.1 h).length_le
structure Fst (s:List UInt8) (q:Nat×Nat):Prop where
 pos:1≤q.2
 le:q.2≤s.length
 kind:2≤q.1∧q.1≤12
 wiki:q.1=10→17≤q.2∧nowikiO.isPrefixOf s=true∧nowikiC.isPrefixOf (s.drop (q.2-9))=true
 open_:q.1=3→2≤q.2∧s.take q.2=List.replicate q.2 123
 close:q.1=4→2≤q.2∧s.take q.2=List.replicate q.2 125
 tagO:q.1=11→∃ k,1≤k∧k≤3∧s.take q.2=tagO k
 tagC:q.1=12→∃ k,1≤k∧k≤3∧s.take q.2=tagC k
 link:q.1=5→s.take q.2=[91,91]
 linkC:q.1=6→s.take q.2=[93,93]
 bar:q.1=7→s.take q.2=[124]
 eq:q.1=8→s.take q.2=[61]
theorem runL_take (c:UInt8):∀ s:List UInt8,s.take (runL c s)=List.replicate (runL c s) c
 | []=>by simp [runL]
 | x::r=>by
   simp only [runL]
   split
   ·rename_i h; subst h; simp [List.replicate_succ,runL_take x r]
   ·simp
theorem runL_two {c:UInt8} {s:List UInt8} (h:2≤runL c s):s.take 2=[c,c]:=by
 have h1:=runL_take c s
 have h2:=congrArg (List.take 2) h1
 rw [List.take_take,List.take_replicate,Nat.min_eq_left h] at h2
 exact h2
theorem idxF_at (t:List UInt8):∀ (s:List UInt8) (i k:Nat),idxF t s i=some k→t.isPrefixOf (s.drop (k-i))=true
 | [],i,k,h=>by
   simp only [idxF] at h
   split at h
   ·rename_i h0; simp at h; subst h; simp [h0]
   ·simp at h
 | x::r,i,k,h=>by
   simp only [idxF] at h
   split at h
   ·rename_i hp; simp at h; subst h; simpa using hp
   ·have h1:=idxF_at t r (i+1) k h
    have h2:=(idxF_le t r (i+1) k h).1
    have:k-i=(k-(i+1))+1:=by omega
    rw [this]; simpa using h1
theorem tagTok_fst {s:List UInt8} (h:(tagTok s).1≠0):Fst s (tagTok s):=by
 unfold tagTok at h ⊢
 split
 ·rename_i h1
  obtain ⟨a,b,c⟩:=tagAt_spec h1
  exact ⟨by simp [tagO],len_prefix c,by simp,by simp,by simp,by simp,fun _=>⟨_,a,b,take_prefix c⟩,by simp,by simp,by simp,by simp,by simp⟩
 ·split
  ·rename_i h1
   obtain ⟨a,b,c⟩:=tagAt_spec h1
   exact ⟨by simp [tagC],len_prefix c,by simp,by simp,by simp,by simp,by simp,fun _=>⟨_,a,b,take_prefix c⟩,by simp,by simp,by simp,by simp⟩
  ·simp_all
theorem angleF_fst {s:List UInt8} (h:(angleF s).1≠0):Fst s (angleF s):=by
 unfold angleF at h ⊢
 split
 ·rename_i h1
  have hl:=len_prefix h1
  simp only [List.length_cons,List.length_nil] at hl
  cases hk:idxF [45,45,62] (s.drop 4) 0 with
  | some k =>
    obtain ⟨_,h2⟩:=idxF_le _ _ _ _ hk
    simp only [List.length_drop,List.length_cons,List.length_nil] at h2
    exact ⟨by simp,by simp; omega,by simp,by simp,by simp,by simp,by simp,by simp,by simp,by simp,by simp,by simp⟩
  | none=>exact ⟨by simp; omega,by simp,by simp,by simp,by simp,by simp,by simp,by simp,by simp,by simp,by simp,by simp⟩
 ·split
  ·rename_i h0 h1
   have hl:=len_prefix h1
   simp only [nowikiO,List.length_cons,List.length_nil] at hl
   cases hk:idxF nowikiC (s.drop 8) 0 with
   | some k =>
     obtain ⟨_,h2⟩:=idxF_le _ _ _ _ hk
     have h3:=idxF_at _ _ _ _ hk
     simp only [List.drop_drop,Nat.sub_zero] at h3
     simp only [nowikiC,List.length_drop,List.length_cons,List.length_nil] at h2
     refine ⟨by simp <;> omega,by simp <;> omega,by simp,fun _=>⟨by simp <;> omega,h1,?_⟩,by simp,by simp,by simp,by simp,by simp,by simp,by simp,by simp⟩
     simp only [Nat.add_sub_cancel]; exact h3
   | none =>
     have:(tagTok s).1≠0:=by simp_all
     exact tagTok_fst this
  ·have:(tagTok s).1≠0:=by simp_all
   exact tagTok_fst this
theorem firstF_fst {s:List UInt8} (h:(firstF s).1≠0):Fst s (firstF s):=by
 cases s with
 | nil=>simp [firstF] at h
 | cons c r =>
   have rl:=runL_le
   have one:1≤(c::r).length:=by simp
   simp only [firstF] at h ⊢
   split
   ·rename_i hc; rw [if_pos hc] at h; exact angleF_fst h
   rename_i hc; rw [if_neg hc] at h
   split
   ·rename_i hc; rw [if_pos hc] at h
    split
    ·rename_i h2; exact ⟨by simp; omega,rl _ _,by simp,by simp,fun _=>⟨h2,runL_take _ _⟩,by simp,by simp,by simp,by simp,by simp,by simp,by simp⟩
    ·rename_i hn; rw [if_neg hn] at h; exact absurd rfl h
   rename_i hc; rw [if_neg hc] at h
   split
   ·rename_i hc; rw [if_pos hc] at h
    split
    ·rename_i h2; exact ⟨by simp; omega,rl _ _,by simp,by simp,by simp,fun _=>⟨h2,runL_take _ _⟩,by simp,by simp,by simp,by simp,by simp,by simp⟩
    ·rename_i hn; rw [if_neg hn] at h; exact absurd rfl h
   rename_i hc; rw [if_neg hc] at h
   split
   ·rename_i hc; rw [if_pos hc] at h
    split
    ·rename_i h2; exact ⟨by simp,Nat.le_trans h2 (rl _ _),by simp,by simp,by simp,by simp,by simp,by simp,fun _=>runL_two h2,by simp,by simp,by simp⟩
    ·rename_i hn; rw [if_neg hn] at h; exact absurd rfl h
   rename_i hc; rw [if_neg hc] at h
   split
   ·rename_i hc; rw [if_pos hc] at h
    split
    ·rename_i h2; exact ⟨by simp,Nat.le_trans h2 (rl _ _),by simp,by simp,by simp,by simp,by simp,by simp,by simp,fun _=>runL_two h2,by simp,by simp⟩
    ·rename_i hn; rw [if_neg hn] at h; exact absurd rfl h
   rename_i hc; rw [if_neg hc] at h
   split
   ·rename_i h2; subst h2; exact ⟨by simp,one,by simp,by simp,by simp,by simp,by simp,by simp,by simp,by simp,fun _=>rfl,by simp⟩
   rename_i hc; rw [if_neg hc] at h
   split
   ·rename_i h2; subst h2; exact ⟨by simp,one,by simp,by simp,by simp,by simp,by simp,by simp,by simp,by simp,by simp,fun _=>rfl⟩
   rename_i hc; rw [if_neg hc] at h
   split
   ·exact ⟨by simp,one,by simp,by simp,by simp,by simp,by simp,by simp,by simp,by simp,by simp,by simp⟩
   rename_i hc; rw [if_neg hc] at h
   exact absurd rfl h
structure Tok.good (s:List UInt8) (t:Tok):Prop where
 lt:t.fr<t.to
 le:t.to≤s.length
 txt:t.kind=1∨Fst (s.drop t.fr) (t.kind,t.to-t.fr)
theorem Tok.text_eq {s:List UInt8} {t:Tok}:t.text s=(s.drop t.fr).take (t.to-t.fr):=by
 simp [Tok.text,List.drop_take]
theorem Tok.good.tagO {s:List UInt8} {t:Tok} (h:t.good s) (hk:t.kind=11):∃ k,1≤k∧k≤3∧t.text s=Go.Ab.tagO k:=by
 rcases h.txt with h1 | h1
 ·omega
 ·obtain ⟨k,a,b,c⟩:=h1.tagO hk
  exact ⟨k,a,b,by rw [Tok.text_eq]; exact c⟩
theorem Tok.good.tagC {s:List UInt8} {t:Tok} (h:t.good s) (hk:t.kind=12):∃ k,1≤k∧k≤3∧t.text s=Go.Ab.tagC k:=by
 rcases h.txt with h1 | h1
 ·omega
 ·obtain ⟨k,a,b,c⟩:=h1.tagC hk
  exact ⟨k,a,b,by rw [Tok.text_eq]; exact c⟩
theorem Tok.good.wf {s:List UInt8} {t:Tok} (h:t.good s):t.wf s:=by
 have hl:=Tok.text_length h.le
 refine ⟨?_,h.lt,h.le,fun hk=>?_,fun hk=>?_,fun hk=>?_,h.tagO,h.tagC⟩
 ·rcases h.txt with h | h
  ·omega
  ·exact ⟨by have:=h.kind.1; simp at this; omega,h.kind.2⟩
 ·rcases h.txt with h1 | h1
  ·omega
  ·have:=(h1.wiki hk).1; simp at this; omega
 ·rcases h.txt with h1 | h1
  ·omega
  ·obtain ⟨k,a,b,c⟩:=h1.tagO hk
   have:t.tag s=k:=by
    rw [Tok.tag,if_pos hk,Tok.text_eq]
    simp only at c
    rw [c]; exact tagAt_O k a b
   omega
 ·rcases h.txt with h1 | h1
  ·omega
  ·have:=(h1.open_ hk).1; simp at this; omega
theorem scanF_good (s:List UInt8):∀ (n t i:Nat),t≤i→i≤s.length→(∀ x,x∈scanF s n t i→x.good s)∧lenT (scanF s n t i)≤s.length-t
 | 0,t,i,_,_=>by simp [scanF,lenT]
 | n+1,t,i,h1,h2=>by
   rw [scanF]
   split
   ·rename_i hi
    split
    ·obtain ⟨g1,g2⟩:=scanF_good s n t (i+1) (by omega) (by omega)
     exact ⟨g1,g2⟩
    ·rename_i hf
     have fs:=firstF_fst hf
     have hle:=fs.le
     have hpos:=fs.pos
     rw [List.length_drop] at hle
     obtain ⟨g1,g2⟩:=scanF_good s n (i+(firstF (s.drop i)).2) (i+(firstF (s.drop i)).2) (Nat.le_refl _) (by omega)
     constructor
     ·intro x hx
      simp only [List.mem_append,List.mem_cons] at hx
      rcases hx with hx | rfl | hx
      ·split at hx
       ·simp only [List.mem_singleton] at hx
        subst hx
        exact ⟨by assumption,by simp; omega,.inl rfl⟩
       ·simp at hx
      ·exact ⟨by simp; omega,by simp; omega,.inr (by simpa using fs)⟩
      ·exact g1 x hx
     ·rw [lenT_append]
      have:lenT (if t<i then [⟨1,t,i⟩] else [])=i-t:=by
       split
       ·simp [lenT]
       ·simp [lenT]; omega
      rw [this]
      simp only [lenT]
      omega
   ·split
    ·rename_i hi ht
     constructor
     ·intro x hx
      simp only [List.mem_singleton] at hx
      subst hx
      exact ⟨ht,Nat.le_refl _,.inl rfl⟩
     ·simp [lenT]
    ·simp [lenT]
theorem scan_good (s:List UInt8):(∀ x,x∈scan s→x.good s)∧lenT (scan s)≤s.length:=by
 have:=scanF_good s (s.length+1) 0 0 (Nat.le_refl _) (Nat.zero_le _)
 simpa [scan] using this
end Go.Ab
namespace Go.Ab
variable {P:Program} {F T:Nat→Nat}
end Go.Ab
