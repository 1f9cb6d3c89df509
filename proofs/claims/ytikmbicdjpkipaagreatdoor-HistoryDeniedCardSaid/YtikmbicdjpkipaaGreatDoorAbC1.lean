/- Several texts of one kind, merged. No condition. -/
import Derived.Test.YtikmbicdjpkipaaGreatDoorAbE4
import Derived.Lib.IndexMore
import Derived.Lib.SplitLaws
import Derived.Lib.CountLaws
import Derived.Test.YtikmbicdjpkipaaGreatDoorAbZ1
import Derived.Lib.Split
import Derived.Lib.IndexBytes
import Derived.Test.YtikmbicdjpkipaaGreatDoorAbP1
import Derived.Deep.Draws
set_option linter.unusedSimpArgs false
set_option linter.unusedVariables false
namespace Go.Ab
def aCc:List UInt8→List (List UInt8)
 | []=>[[]]
 | x::r=>if x=47 then []::aCc r else (x::(aCc r).headD [])::(aCc r).tail
theorem aXj:∀ s:List UInt8,aCc s≠[]
 | []=>by simp [aCc]
 | x::r=>by simp only [aCc]; split <;> simp
theorem aPq (s:List UInt8):∃ p q,aCc s=p::q:=by
 cases h:aCc s with
 | nil=>exact absurd h (aXj s)
 | cons p q=>exact ⟨p,q,rfl⟩
theorem aMs:∀ {s:List UInt8},(∀ b,b∈s→b≠47)→aCc s=[s]
 | [],_=>rfl
 | x::r,h=>by
   have ih:=aMs (s:=r) (fun b hb=>h b (by simp [hb]))
   have hx:=h x (by simp)
   simp [aCc,hx,ih]
theorem aNb:∀ {u v:List UInt8},(∀ b,b∈u→b≠47)→aCc (u++47::v)=u::aCc v
 | [],v,_=>by simp [aCc]
 | x::r,v,h=>by
   have ih:=aNb (u:=r) (v:=v) (fun b hb=>h b (by simp [hb]))
   have hx:=h x (by simp)
   simp [aCc,hx,ih]
def lowB (b:UInt8):UInt8:=if 65≤b.toNat∧b.toNat≤90 then UInt8.ofNat (b.toNat+32) else b
def lowL (s:List UInt8):List UInt8:=s.map lowB
def bGd (n:Nat):List UInt8:=[[],[84,97,108,107],[85,115,101,114],[84,101,109,112,108,97,116,101],[67,97,116,101,103,111,114,121],[80,114,111,106,101,99,116]].getD n []
def unbl (s:List UInt8):List UInt8:=if s.getLast?=some 32 then s.dropLast else s
def nsF (p:List UInt8):Nat→Nat→Nat
 | 0,_=>0
 | k+1,n=>if lowL p=lowL (bGd n) then n else nsF p k (n+1)
def colF (s:List UInt8):Option Nat:=s.findIdx? (·==58)
def bL2 (s:List UInt8):Nat:=match colF s with
 | none=>0
 | some i=>nsF (unbl (s.take i)) 5 1
def badB (c:UInt8):Bool:=decide (c.toNat<32)||decide (c.toNat=127)||[60,62,91,93,123,125,124,35,95].contains c
def bAv (pb:Bool):List UInt8→Bool
 | []=>true
 | c::r=>!badB c&&!(decide (c=32)&&pb)&&bAv (decide (c=32)) r
def bJv (p:List UInt8):Bool:=!decide (p=[])&&!decide (p.getD 0 0=32)&&!decide (p.getD (p.length-1) 0=32)
def bMk (s:List UInt8):Bool:=decide ((s.getD 0 0).toNat=58)||(decide (97≤(s.getD 0 0).toNat)&&decide ((s.getD 0 0).toNat≤122))
def aD8 (sp:Int) (s:List UInt8):Bool :=
 decide (0≤sp)&&decide (sp<6)&&decide (1≤s.length)&&decide (s.length≤100)&&bAv false s&&(aCc s).all bJv&&!bMk s&&(!decide (sp=0)||decide (bL2 s=0))
def anc (sp:Int) (s:List UInt8):Nat→List (List UInt8)
 | 0=>[]
 | i+1=>anc sp s i++(if s.getD i 0=47 then [s.take i] else [])
end Go.Ab
namespace Go.Ab
variable {P:Program} {F T:Nat→Nat}
open Go.Lib
theorem aK2 (c:UInt8):∀ s:List UInt8,indexByte s c=match s.findIdx? (·==c) with | none=>-1 | some i=>(i:Int)
 | []=>rfl
 | x::r=>by
   have ih:=aK2 c r
   by_cases hx:x=c
   ·subst hx; simp [indexByte,List.findIdx?_cons]
   ·have hx':(x==c)=false:=by simpa using hx
    simp only [indexByte,hx',List.findIdx?_cons,Bool.false_eq_true,if_false]
    rw [ih]
    cases h:r.findIdx? (·==c) with
    | none=>rfl
    | some i =>
      have:(((i:Nat):Int)==-1)=false:=by rw [beq_eq_false_iff_ne]; omega
      simp [this]
theorem aRg {c:UInt8} {s:List UInt8} {i:Nat} (h:s.findIdx? (·==c)=some i):s=s.take i++c::s.drop (i+1)∧(∀ b,b∈s.take i→b≠c)∧i<s.length:=by
 rw [List.findIdx?_eq_some_iff_getElem] at h
 obtain ⟨hi,h1,h2⟩:=h
 have hc:s[i]=c:=by simpa using h1
 refine ⟨?_,fun b hb=>?_,hi⟩
 ·conv=>lhs; rw [← List.take_append_drop i s,List.drop_eq_getElem_cons hi,hc]
 ·obtain ⟨j,hj,rfl⟩:=List.mem_iff_getElem.1 hb
  rw [List.length_take] at hj
  rw [List.getElem_take]
  have:=h2 j (by omega)
  simpa using this
theorem aWa {c:UInt8} {s:List UInt8} (h:s.findIdx? (·==c)=none):∀ b,b∈s→b≠c:=by
 intro b hb
 rw [List.findIdx?_eq_none_iff] at h
 have:=h b hb
 simpa using this
theorem aO0:∀ (n:Nat) (s:List UInt8),s.length≤n→split s [47]=aCc s:=by
 intro n
 induction n with
 | zero =>
   intro s hs
   have:s=[]:=List.length_eq_zero_iff.1 (by omega)
   subst this; rfl
 | succ n ih =>
   intro s hs
   have hix:index s [47]=indexByte s 47:=index_one s 47
   rw [aK2] at hix
   cases hf:s.findIdx? (·==47) with
   | none =>
     rw [hf] at hix
     rw [split,count_miss hix,splitK,aMs (aWa hf)]
   | some i =>
     rw [hf] at hix
     simp only at hix
     obtain ⟨h1,h2,h3⟩:=aRg hf
     have hm:¬ (index s [47]==-1)=true:=fun e=>by have:=beq_iff_eq.1 e; omega
     have ht:(index s [47]).toNat=i:=by omega
     have ih':=ih (s.drop (i+1)) (by rw [List.length_drop]; omega)
     rw [split,count_hit (by simp) hix,Nat.add_comm,splitK,if_neg hm,ht,Nat.add_zero]
     rw [split] at ih'
     simp only [List.length_singleton]
     rw [ih']
     conv=>rhs; rw [h1,aNb h2]
end Go.Ab
namespace Go.Ab
open Go.Lib
theorem aZc (sp:Int) (s:List UInt8) (i:Nat):anc sp s (i+1)=anc sp s i++(if s.getD i 0=47 then [s.take i] else []):=rfl
structure Scp where
 k:Int
 sp:Int
 n:List UInt8
def Scp.v (x:Scp):V:=.agg [.int .i64 x.k,.int .i64 x.sp,.str x.n]
def scV (l:List Scp):List V:=l.map Scp.v
def levF (sp:Int) (s:List UInt8):List Scp:=⟨3,sp,s⟩::((anc sp s s.length).reverse.map fun q=>⟨3,sp,q⟩)++[⟨2,sp,[]⟩,⟨1,0,[]⟩]
def covB (a b:Scp):Bool:=if a.k=b.k then (if a.k=3 then decide (a.sp=b.sp)&&decide (a.n=b.n) else if a.k=2 then decide (a.sp=b.sp) else true) else false
structure Rul where
 al:Bool
 ri:Int
 gr:List UInt8
 sc:Scp
def Rul.v (x:Rul):V:=.agg [.bool x.al,.int .i64 x.ri,.str x.gr,.int .i64 x.sc.k,.int .i64 x.sc.sp,.str x.sc.n]
def ruV (l:List Rul):List V:=l.map Rul.v
def hitB (g:List (List UInt8)) (right:Int) (lv:Scp) (r:Rul):Bool:=decide (r.ri=right)&&g.contains r.gr&&covB r.sc lv
def aI0 (g:List (List UInt8)) (right:Int) (lv:Scp):List Rul→Bool×Bool→Bool×Bool
 | [],x=>x
 | r::rs,x=>aI0 g right lv rs (if hitB g right lv r then (true,x.2&&r.al) else x)
def mayL (rs:List Rul) (g:List (List UInt8)) (right:Int):List Scp→Bool
 | []=>false
 | lv::l=>if (aI0 g right lv rs (false,true)).1 then (aI0 g right lv rs (false,true)).2 else mayL rs g right l
def mayF (rs:List Rul) (g:List (List UInt8)) (right sp:Int) (s:List UInt8):Bool :=
 aD8 sp s&&decide (1≤right)&&decide (right≤5)&&mayL rs g right (levF sp s)
end Go.Ab
namespace Go.Ab
variable {P:Program} {F T:Nat→Nat}
open Go.Lib
theorem bCo {D:Nat→Prop} {w:World} (hD:∀ b,D b→b<w.heap.size) (l:List (List UInt8)) (n ty:Nat) (hn:n=l.length) (hl:∀ q,q∈l→q.length<2^63) (hn2:n<2^63) :
 Rep (fun _=>none) D (w.alloc (.cells ((l.map fun q=>Value.string ⟨q.toArray⟩).toArray) ty)) (.lst 1 (l.map .str)) (.slice (some ⟨w.heap.size,0,none⟩) n n):=by
 have hc:∀ (i j:Nat) (c:V),(((l.map V.str)[i]?).bind fun e=>e.cells[j]?)=some c→∃ q,l[i]?=some q∧j=0∧c=.str q:=by
  intro i j c h
  cases hq:l[i]? with
  | none=>simp [hq] at h
  | some q =>
    simp only [List.getElem?_map,hq,Option.map_some,Option.bind_some,V.cells] at h
    match j,h with
    | 0,h=>simp at h; exact ⟨q,rfl,rfl,h.symm⟩
 have hcell:∀ (i:Nat) (q:List UInt8),l[i]?=some q→(w.alloc (.cells ((l.map fun q=>Value.string ⟨q.toArray⟩).toArray) ty)).cell? ⟨w.heap.size,i,none⟩=some (.string ⟨q.toArray⟩):=by
  intro i q h
  have hi:=(List.getElem?_eq_some_iff.1 h).1
  have hv:=(List.getElem?_eq_some_iff.1 h).2
  unfold World.cell?
  rw [aAw]
  simp [hi,hv]
 have hlen:n=(l.map V.str).length:=by simp [hn]
 rw [hlen]
 refine .lst 1 _ _ _ w.heap.size 0 (Nat.le_refl _) (by omega) (fun _=>⟨rfl,by rw [size_alloc]; omega,fun h=>by have:=hD _ h; omega⟩) (fun e he=>?_) (fun i j c h=>?_) (fun i j c h=>?_)
 ·obtain ⟨q,_,rfl⟩:=List.mem_map.1 he; rfl
 ·obtain ⟨q,h1,rfl,rfl⟩:=hc i j c h
  rw [show 0+i*1+0=i by omega,hcell i q h1]; rfl
 ·obtain ⟨q,h1,rfl,rfl⟩:=hc i j c h
  rw [show 0+i*1+0=i by omega,aCg,hcell i q h1]
  exact .str _ (hl q (List.mem_of_getElem? h1))
theorem aUd {s:List UInt8}:∀ q,q∈aCc s→q.length≤s.length:=by
 induction s with
 | nil=>intro q hq; simp [aCc] at hq; simp [hq]
 | cons x r ih =>
   intro q hq
   obtain ⟨p,u,hp⟩:=aPq r
   simp only [aCc,hp] at hq ih
   split at hq
   ·simp only [List.mem_cons] at hq
    rcases hq with rfl | hq
    ·simp
    ·have:=ih q (by simpa using hq)
     simp; omega
   ·simp only [List.headD_cons,List.tail_cons,List.mem_cons] at hq
    rcases hq with rfl | hq
    ·have:=ih p (by simp)
     simp; omega
    ·have:=ih q (by simp [hq])
     simp; omega
end Go.Ab
namespace Go.Ab
def c178 (F T:Nat→Nat):C :=
 .n [.box 4 (T 16) (.t 0),.box 7 (T 17) (.t 3),.mov (some 8) (.k (.bool false))] <|
 .seq (.seq (.ops false [⟨none,[.load (some 15) false 2 true (.t 7),.c 16 (F 185) [.t 15],.un (some 17) .not (.t 16),.m 18 17]⟩,
 ⟨some (18,false),[.m 19 2,.bi 20 .lss 19 1]⟩,
 ⟨none,[.pt 21 18 20,.m 22 21]⟩,
 ⟨some (22,false),[.m 23 2,.bi 24 .gtr 23 5]⟩,
 ⟨none,[.pt 25 22 24]⟩]) <|
 .cond (.t 25)
 (.n [.mov (some 8) (.k (.bool false))] <|
 .ret)
 (.skip)) <|
 .seq (.n [.load (some 26) false 2 true (.t 7),.c 27 (F 181) [.t 26],.ll 28 27,.mov (some 29) (.i 0)] <|
 .block 0 <|
 .loop <|
 .n [.b 30 .lss 29 28] <|
 .seq (.cond (.t 30)
 (.skip)
 (.exit 0)) <|
 .seq (.block 1 <|
 .n [.ia 31 3 27 29,.load (some 32) false 3 true (.t 31),.alloc 10 (T 18) [(.int .i64 0),(.int .i64 0),(.str [])],.store 3 (.t 10) (.t 32)] <|
 .n [.mov (some 11) (.k (.bool false)),.mov (some 12) (.k (.bool true))] <|
 .seq (.n [.f 33 1 4,.l 34 33,.ll 35 34,.mov (some 36) (.i 0)] <|
 .block 2 <|
 .loop <|
 .n [.b 37 .lss 36 35] <|
 .seq (.cond (.t 37)
 (.skip)
 (.exit 2)) <|
 .seq (.block 3 <|
 .n [.ia 38 6 34 36,.load (some 39) false 6 true (.t 38),.alloc 14 (T 19) [(.bool false),(.int .i64 0),(.str []),(.int .i64 0),(.int .i64 0),(.str [])],.store 6 (.t 14) (.t 39)] <|
 .seq (.ops false [⟨none,[.f 40 1 14,.l 41 40,.m 42 2,.b 43 .eql 41 42,.m 44 43]⟩,
 ⟨some (44,true),[.m 45 1,.f 46 2 14,.l 47 46,.c 48 (F 220) [.t 45,.t 47]]⟩,
 ⟨none,[.pf 49 44 48,.m 50 49]⟩,
 ⟨some (50,true),[.f 51 3 14,.load (some 52) false 3 true (.t 51),.load (some 53) false 3 true (.t 10),.c 54 (F 182) [.t 52,.t 53]]⟩,
 ⟨none,[.pf 55 50 54]⟩]) <|
 .cond (.t 55)
 (.ops true [⟨none,[.m 56 12,.m 57 56]⟩,
 ⟨some (57,true),[.f 58 0 14,.l 59 58]⟩,
 ⟨none,[.pf 60 57 59,.mov (some 11) (.k (.bool true)),.m 12 60]⟩])
 (.skip)) <|
 .o [.bi 61 .add 36 1,.m 36 61]) <|
 .n [.m 62 11] <|
 .cond (.t 62)
 (.n [.m 63 12,.m 8 63] <|
 .ret)
 (.skip)) <|
 .o [.bi 64 .add 29 1,.m 29 64]) <|
 .n [.mov (some 8) (.k (.bool false))] <|
 .ret
abbrev bCr (P:Program) (F T:Nat→Nat):Prop:=Fn P (F 178) 65 [(8,none)] (c178 F T)
def c182 (F T:Nat→Nat):C :=
 .n [.box 2 (T 18) (.t 0),.box 3 (T 18) (.t 1),.mov (some 4) (.k (.bool false))] <|
 .seq (.n [.f 5 0 2,.l 6 5,.f 7 0 3,.l 8 7,.b 9 .neq 6 8] <|
 .cond (.t 9)
 (.n [.mov (some 4) (.k (.bool false))] <|
 .ret)
 (.skip)) <|
 .seq (.n [.f 10 0 2,.l 11 10] <|
 .block 0 <|
 .n [.bi 13 .eql 11 3,.m 12 13] <|
 .cond (.t 12)
 (.n [.f 14 1 2,.load (some 15) false 2 true (.t 14),.f 16 1 3,.load (some 17) false 2 true (.t 16),.eqA (some 18) false [0,1] (.t 15) (.t 17),.m 4 18] <|
 .ret)
 (.n [.bi 20 .eql 11 2,.m 19 20] <|
 .cond (.t 19)
 (.n [.f 21 1 2,.f 22 0 21,.l 23 22,.f 24 1 3,.f 25 0 24,.l 26 25,.b 27 .eql 23 26,.m 4 27] <|
 .ret)
 (.skip))) <|
 .n [.mov (some 4) (.k (.bool true))] <|
 .ret
abbrev bDg (P:Program) (F T:Nat→Nat):Prop:=Fn P (F 182) 28 [(4,none)] (c182 F T)
def c192 (F T:Nat→Nat):C :=
 .n [.box 4 (T 16) (.t 0),.box 7 (T 17) (.t 3),.mov (some 8) (.k (.bool false))] <|
 .seq (.seq (.ops false [⟨none,[.load (some 15) false 2 true (.t 7),.c 16 (F 199) [.t 15],.un (some 17) .not (.t 16),.m 18 17]⟩,
 ⟨some (18,false),[.m 19 2,.bi 20 .lss 19 1]⟩,
 ⟨none,[.pt 21 18 20,.m 22 21]⟩,
 ⟨some (22,false),[.m 23 2,.bi 24 .gtr 23 5]⟩,
 ⟨none,[.pt 25 22 24]⟩]) <|
 .cond (.t 25)
 (.n [.mov (some 8) (.k (.bool false))] <|
 .ret)
 (.skip)) <|
 .n [.load (some 26) false 2 true (.t 7),.c 27 (F 194) [.t 26],.m 9 27] <|
 .seq (.n [.mov (some 10) (.i 0)] <|
 .block 0 <|
 .loop <|
 .seq (.n [.m 28 10,.m 29 9,.ll 30 29,.b 31 .lss 28 30] <|
 .cond (.t 31)
 (.skip)
 (.exit 0)) <|
 .seq (.block 1 <|
 .n [.mov (some 11) (.k (.bool false)),.mov (some 12) (.k (.bool true))] <|
 .seq (.n [.mov (some 13) (.i 0)] <|
 .block 2 <|
 .loop <|
 .seq (.n [.m 34 13,.f 35 1 4,.l 36 35,.ll 37 36,.b 38 .lss 34 37] <|
 .cond (.t 38)
 (.skip)
 (.exit 2)) <|
 .seq (.block 3 <|
 .n [.f 41 1 4,.l 42 41,.m 43 13,.ia 44 6 42 43,.load (some 45) false 6 true (.t 44),.alloc 14 (T 19) [(.bool false),(.int .i64 0),(.str []),(.int .i64 0),(.int .i64 0),(.str [])],.store 6 (.t 14) (.t 45)] <|
 .seq (.ops true [⟨none,[.f 46 1 14,.l 47 46,.m 48 2,.b 49 .eql 47 48,.m 50 49]⟩,
 ⟨some (50,true),[.m 51 1,.f 52 2 14,.l 53 52,.c 54 (F 193) [.t 51,.t 53]]⟩,
 ⟨none,[.pf 55 50 54,.m 56 55]⟩,
 ⟨some (56,true),[.f 57 3 14,.load (some 58) false 3 true (.t 57),.m 59 9,.m 60 10,.ia 61 3 59 60,.load (some 62) false 3 true (.t 61),.c 63 (F 195) [.t 58,.t 62]]⟩,
 ⟨none,[.pf 64 56 63]⟩]) <|
 .cond (.t 64)
 (.ops true [⟨none,[.m 65 12,.m 66 65]⟩,
 ⟨some (66,true),[.f 67 0 14,.l 68 67]⟩,
 ⟨none,[.pf 69 66 68,.mov (some 11) (.k (.bool true)),.m 12 69]⟩])
 (.skip)) <|
 .o [.m 39 13,.bi 40 .add 39 1,.m 13 40]) <|
 .n [.m 70 11] <|
 .cond (.t 70)
 (.n [.m 71 12,.m 8 71] <|
 .ret)
 (.skip)) <|
 .o [.m 32 10,.bi 33 .add 32 1,.m 10 33]) <|
 .n [.mov (some 8) (.k (.bool false))] <|
 .ret
abbrev bEq (P:Program) (F T:Nat→Nat):Prop:=Fn P (F 192) 72 [(8,none)] (c192 F T)
def c193 (F T:Nat→Nat):C :=
 .n [.mov (some 4) (.k (.bool false))] <|
 .seq (.n [.mov (some 5) (.i 0)] <|
 .block 0 <|
 .loop <|
 .seq (.n [.m 6 5,.m 7 0,.ll 8 7,.b 9 .lss 6 8] <|
 .cond (.t 9)
 (.skip)
 (.exit 0)) <|
 .seq (.block 1 <|
 .n [.m 12 0,.m 13 5,.ia 14 1 12 13,.l 15 14,.m 16 1,.b 17 .eql 15 16] <|
 .cond (.t 17)
 (.n [.mov (some 4) (.k (.bool true))] <|
 .ret)
 (.skip)) <|
 .o [.m 10 5,.bi 11 .add 10 1,.m 5 11]) <|
 .n [.mov (some 4) (.k (.bool false))] <|
 .ret
abbrev bE0 (P:Program) (F T:Nat→Nat):Prop:=Fn P (F 193) 18 [(4,none)] (c193 F T)
def c195 (F T:Nat→Nat):C :=
 .n [.box 2 (T 18) (.t 0),.box 3 (T 18) (.t 1),.mov (some 4) (.k (.bool false))] <|
 .seq (.n [.f 5 0 2,.l 6 5,.f 7 0 3,.l 8 7,.b 9 .neq 6 8] <|
 .cond (.t 9)
 (.n [.mov (some 4) (.k (.bool false))] <|
 .ret)
 (.skip)) <|
 .seq (.n [.f 10 0 2,.l 11 10] <|
 .block 0 <|
 .n [.bi 13 .eql 11 3,.m 12 13] <|
 .cond (.t 12)
 (.n [.f 14 1 2,.load (some 15) false 2 true (.t 14),.f 16 1 3,.load (some 17) false 2 true (.t 16),.eqA (some 18) false [0,1] (.t 15) (.t 17),.m 4 18] <|
 .ret)
 (.n [.bi 20 .eql 11 2,.m 19 20] <|
 .cond (.t 19)
 (.n [.f 21 1 2,.f 22 0 21,.l 23 22,.f 24 1 3,.f 25 0 24,.l 26 25,.b 27 .eql 23 26,.m 4 27] <|
 .ret)
 (.skip))) <|
 .n [.mov (some 4) (.k (.bool true))] <|
 .ret
abbrev bD2 (P:Program) (F T:Nat→Nat):Prop:=Fn P (F 195) 28 [(4,none)] (c195 F T)
def c220 (F T:Nat→Nat):C :=
 .n [.mov (some 4) (.k (.bool false))] <|
 .n [.m 5 0,.m 6 1,.c 7 (F 222) [.t 5,.t 6],.bi 8 .geq 7 0,.m 4 8] <|
 .ret
abbrev bB4 (P:Program) (F T:Nat→Nat):Prop:=Fn P (F 220) 9 [(4,none)] (c220 F T)
def c222 (F T:Nat→Nat):C :=
 .n [.mov (some 4) (.i 0)] <|
 .seq (.n [.m 6 0,.ll 7 6,.mov (some 8) (.i 0)] <|
 .block 0 <|
 .loop <|
 .n [.b 9 .lss 8 7] <|
 .seq (.cond (.t 9)
 (.skip)
 (.exit 0)) <|
 .seq (.block 1 <|
 .n [.m 10 8,.m 5 10] <|
 .n [.m 11 1,.m 12 0,.m 13 5,.ia 14 1 12 13,.l 15 14,.b 16 .eql 11 15] <|
 .cond (.t 16)
 (.n [.m 17 5,.m 4 17] <|
 .ret)
 (.skip)) <|
 .o [.bi 18 .add 8 1,.m 8 18]) <|
 .n [.mov (some 4) (.k (.int .i64 (-1)))] <|
 .ret
abbrev bAa (P:Program) (F T:Nat→Nat):Prop:=Fn P (F 222) 19 [(4,none)] (c222 F T)
end Go.Ab
