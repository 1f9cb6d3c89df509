/- Several texts of one kind, merged. No condition. -/
import Derived.Test.YtcmnepgnkcoiiaaGreatDoorAbE4
import Derived.Lib.IndexMore
import Derived.Lib.SplitLaws
import Derived.Lib.CountLaws
import Derived.Test.YtcmnepgnkcoiiaaGreatDoorAbZ1
import Derived.Lib.Split
import Derived.Lib.IndexBytes
import Derived.Test.YtcmnepgnkcoiiaaGreatDoorAbP4
import Derived.Deep.Draws
import Derived.Test.YtcmnepgnkcoiiaaGreatDoorAbZ2
import Derived.Test.YtcmnepgnkcoiiaaGreatDoorAbP1
set_option linter.unusedSimpArgs false
set_option linter.unusedVariables false
namespace Go.Ab
def aA4:List UInt8→List (List UInt8)
 | []=>[[]]
 | x::r=>if x=47 then []::aA4 r else (x::(aA4 r).headD [])::(aA4 r).tail
theorem aW5:∀ s:List UInt8,aA4 s≠[]
 | []=>by simp [aA4]
 | x::r=>by simp only [aA4]; split <;> simp
theorem aQj (s:List UInt8):∃ p q,aA4 s=p::q:=by
 cases h:aA4 s with
 | nil=>exact absurd h (aW5 s)
 | cons p q=>exact ⟨p,q,rfl⟩
theorem aN4:∀ {s:List UInt8},(∀ b,b∈s→b≠47)→aA4 s=[s]
 | [],_=>rfl
 | x::r,h=>by
   have ih:=aN4 (s:=r) (fun b hb=>h b (by simp [hb]))
   have hx:=h x (by simp)
   simp [aA4,hx,ih]
theorem aOf:∀ {u v:List UInt8},(∀ b,b∈u→b≠47)→aA4 (u++47::v)=u::aA4 v
 | [],v,_=>by simp [aA4]
 | x::r,v,h=>by
   have ih:=aOf (u:=r) (v:=v) (fun b hb=>h b (by simp [hb]))
   have hx:=h x (by simp)
   simp [aA4,hx,ih]
def lowB (b:UInt8):UInt8:=if 65≤b.toNat∧b.toNat≤90 then UInt8.ofNat (b.toNat+32) else b
theorem bCf (b:UInt8):(lowB b).toNat=if 65≤b.toNat∧b.toNat≤90 then b.toNat+32 else b.toNat:=by
 unfold lowB
 split
 ·rename_i h; simp; omega
 ·rfl
def lowL (s:List UInt8):List UInt8:=s.map lowB
def aMa (n:Nat):List UInt8:=[[],[84,97,108,107],[85,115,101,114],[84,101,109,112,108,97,116,101],[67,97,116,101,103,111,114,121],[80,114,111,106,101,99,116]].getD n []
def unbl (s:List UInt8):List UInt8:=if s.getLast?=some 32 then s.dropLast else s
def nsF (p:List UInt8):Nat→Nat→Nat
 | 0,_=>0
 | k+1,n=>if lowL p=lowL (aMa n) then n else nsF p k (n+1)
def colF (s:List UInt8):Option Nat:=s.findIdx? (·==58)
def aXf (s:List UInt8):Nat:=match colF s with
 | none=>0
 | some i=>nsF (unbl (s.take i)) 5 1
def badB (c:UInt8):Bool:=decide (c.toNat<32)||decide (c.toNat=127)||[60,62,91,93,123,125,124,35,95].contains c
def aF0 (pb:Bool):List UInt8→Bool
 | []=>true
 | c::r=>!badB c&&!(decide (c=32)&&pb)&&aF0 (decide (c=32)) r
def aOu (p:List UInt8):Bool:=!decide (p=[])&&!decide (p.getD 0 0=32)&&!decide (p.getD (p.length-1) 0=32)
def aQh (s:List UInt8):Bool:=decide ((s.getD 0 0).toNat=58)||(decide (97≤(s.getD 0 0).toNat)&&decide ((s.getD 0 0).toNat≤122))
def aE1 (sp:Int) (s:List UInt8):Bool :=
 decide (0≤sp)&&decide (sp<6)&&decide (1≤s.length)&&decide (s.length≤100)&&aF0 false s&&(aA4 s).all aOu&&!aQh s&&(!decide (sp=0)||decide (aXf s=0))
def anc (sp:Int) (s:List UInt8):Nat→List (List UInt8)
 | 0=>[]
 | i+1=>anc sp s i++(if s.getD i 0=47 then [s.take i] else [])
end Go.Ab
namespace Go.Ab
variable {P:Program} {F T:Nat→Nat}
open Go.Lib
theorem aJg (c:UInt8):∀ s:List UInt8,indexByte s c=match s.findIdx? (·==c) with | none=>-1 | some i=>(i:Int)
 | []=>rfl
 | x::r=>by
   have ih:=aJg c r
   by_cases hx:x=c
   ·subst hx; simp [indexByte,List.findIdx?_cons]
   ·have hx':(x==c)=false:=by simpa using hx
    simp only [indexByte,hx',List.findIdx?_cons,Bool.false_eq_true,if_false]
    rw [ih]
    cases h:r.findIdx? (·==c) with
    | none=>rfl
    | some i =>
      have:(((i:Nat):Int)==-1)=false:=by rw [beq_eq_false_iff_ne]; omega
      simp [this]
theorem aLz {c:UInt8} {s:List UInt8} {i:Nat} (h:s.findIdx? (·==c)=some i):s=s.take i++c::s.drop (i+1)∧(∀ b,b∈s.take i→b≠c)∧i<s.length:=by
 rw [List.findIdx?_eq_some_iff_getElem] at h
 obtain ⟨hi,h1,h2⟩:=h
 have hc:s[i]=c:=by simpa using h1
 refine ⟨?_,fun b hb=>?_,hi⟩
 ·conv=>lhs; rw [← List.take_append_drop i s,List.drop_eq_getElem_cons hi,hc]
 ·obtain ⟨j,hj,rfl⟩:=List.mem_iff_getElem.1 hb
  rw [List.length_take] at hj
  rw [List.getElem_take]
  have:=h2 j (by omega)
  simpa using this
theorem aOn {c:UInt8} {s:List UInt8} (h:s.findIdx? (·==c)=none):∀ b,b∈s→b≠c:=by
 intro b hb
 rw [List.findIdx?_eq_none_iff] at h
 have:=h b hb
 simpa using this
theorem aQ2:∀ (n:Nat) (s:List UInt8),s.length≤n→split s [47]=aA4 s:=by
 intro n
 induction n with
 | zero =>
   intro s hs
   have:s=[]:=List.length_eq_zero_iff.1 (by omega)
   subst this; rfl
 | succ n ih =>
   intro s hs
   have hix:index s [47]=indexByte s 47:=index_one s 47
   rw [aJg] at hix
   cases hf:s.findIdx? (·==47) with
   | none =>
     rw [hf] at hix
     rw [split,count_miss hix,splitK,aN4 (aOn hf)]
   | some i =>
     rw [hf] at hix
     simp only at hix
     obtain ⟨h1,h2,h3⟩:=aLz hf
     have hm:¬ (index s [47]==-1)=true:=fun e=>by have:=beq_iff_eq.1 e; omega
     have ht:(index s [47]).toNat=i:=by omega
     have ih':=ih (s.drop (i+1)) (by rw [List.length_drop]; omega)
     rw [split,count_hit (by simp) hix,Nat.add_comm,splitK,if_neg hm,ht,Nat.add_zero]
     rw [split] at ih'
     simp only [List.length_singleton]
     rw [ih']
     conv=>rhs; rw [h1,aOf h2]
structure TitC (P:Program) (F:Nat→Nat):Prop where
 split:∀ s:List UInt8,s.length≤100000→PTr P (F 171) [.str s,.str [47]] (.lst 1 ((aA4 s).map .str))
 cut:∀ s:List UInt8,s.length≤100000→PTr P (F 172) [.str s,.str [58]] (match colF s with | none=>.tup [.str s,.str [],.bool false] | some i=>.tup [.str (s.take i),.str (s.drop (i+1)),.bool true])
 tsuf:∀ s:List UInt8,s.length≤100000→PTr P (F 173) [.str s,.str [32]] (.str (unbl s))
 ib:∀ (s:List UInt8) (c:UInt8),PTr P (F 120) [.str s,.int .u8 c.toNat] (.int .i64 (indexByte s c))
end Go.Ab
namespace Go.Ab
open Go.Lib
theorem bFi (l:List UInt8) (c:UInt8):0≤indexByte l c↔l.contains c=true:=by
 rw [aJg]
 cases h:l.findIdx? (·==c) with
 | none =>
   have h2:=aOn h
   simp only [List.contains_iff_mem]
   constructor
   ·intro h; omega
   ·intro h; exact absurd rfl (h2 c h)
 | some i =>
   obtain ⟨h1,h2,h3⟩:=aLz h
   simp only [List.contains_iff_mem]
   constructor
   ·intro _; rw [h1]; simp
   ·intro _; omega
def pbAt (s:List UInt8) (i:Nat):Bool:=decide (0<i)&&decide ((s.getD (i-1) 0).toNat=32)
theorem eq32 (c:UInt8):c=32↔c.toNat=32:=⟨fun e=>by rw [e]; rfl,fun e=>by
 have:c=UInt8.ofNat c.toNat:=by simp
 rw [this,e]; rfl⟩
theorem aVd (s:List UInt8) {i:Nat} (h:i<s.length):aF0 (pbAt s i) (s.drop i)=(!badB (s.getD i 0)&&!(decide ((s.getD i 0).toNat=32)&&pbAt s i)&&aF0 (pbAt s (i+1)) (s.drop (i+1))):=by
 have e1:s.getD i 0=s[i]:=by simp [List.getD,h]
 have e2:pbAt s (i+1)=decide (s[i].toNat=32):=by simp [pbAt,List.getD,h]
 rw [List.drop_eq_getElem_cons h,aF0,e1,e2]
 simp only [eq32]
theorem aWj (s:List UInt8) (b:Bool):aF0 b (s.drop s.length)=true:=by simp [aF0]
theorem aR0 (sp:Int) (s:List UInt8) (i:Nat):anc sp s (i+1)=anc sp s i++(if s.getD i 0=47 then [s.take i] else []):=rfl
def ancV (sp:Int) (l:List (List UInt8)):List V:=l.map fun q=>.agg [.int .i64 sp,.str q]
structure Scp where
 k:Int
 sp:Int
 n:List UInt8
def Scp.v (x:Scp):V:=.agg [.int .i64 x.k,.int .i64 x.sp,.str x.n]
def scV (l:List Scp):List V:=l.map Scp.v
def levF (sp:Int) (s:List UInt8):List Scp:=⟨3,sp,s⟩::((anc sp s s.length).reverse.map fun q=>⟨3,sp,q⟩)++[⟨2,sp,[]⟩,⟨1,0,[]⟩]
def covB (a b:Scp):Bool:=if a.k=b.k then (if a.k=3 then decide (a.sp=b.sp)&&decide (a.n=b.n) else if a.k=2 then decide (a.sp=b.sp) else true) else false
structure Rul where
 al:Bool
 ri:Int
 gr:List UInt8
 sc:Scp
def Rul.v (x:Rul):V:=.agg [.bool x.al,.int .i64 x.ri,.str x.gr,.int .i64 x.sc.k,.int .i64 x.sc.sp,.str x.sc.n]
def ruV (l:List Rul):List V:=l.map Rul.v
def hitB (g:List (List UInt8)) (right:Int) (lv:Scp) (r:Rul):Bool:=decide (r.ri=right)&&g.contains r.gr&&covB r.sc lv
def aQm (g:List (List UInt8)) (right:Int) (lv:Scp):List Rul→Bool×Bool→Bool×Bool
 | [],x=>x
 | r::rs,x=>aQm g right lv rs (if hitB g right lv r then (true,x.2&&r.al) else x)
def mayL (rs:List Rul) (g:List (List UInt8)) (right:Int):List Scp→Bool
 | []=>false
 | lv::l=>if (aQm g right lv rs (false,true)).1 then (aQm g right lv rs (false,true)).2 else mayL rs g right l
def mayF (rs:List Rul) (g:List (List UInt8)) (right sp:Int) (s:List UInt8):Bool :=
 aE1 sp s&&decide (1≤right)&&decide (right≤5)&&mayL rs g right (levF sp s)
end Go.Ab
namespace Go.Ab
variable {P:Program} {F T:Nat→Nat}
open Go.Lib
theorem bE9 {D:Nat→Prop} {w:World} (hD:∀ b,D b→b<w.heap.size) (l:List (List UInt8)) (n ty:Nat) (hn:n=l.length) (hl:∀ q,q∈l→q.length<2^63) (hn2:n<2^63) :
 Rep (fun _=>none) D (w.alloc (.cells ((l.map fun q=>Value.string ⟨q.toArray⟩).toArray) ty)) (.lst 1 (l.map .str)) (.slice (some ⟨w.heap.size,0,none⟩) n n):=by
 have hc:∀ (i j:Nat) (c:V),(((l.map V.str)[i]?).bind fun e=>e.cells[j]?)=some c→∃ q,l[i]?=some q∧j=0∧c=.str q:=by
  intro i j c h
  cases hq:l[i]? with
  | none=>simp [hq] at h
  | some q =>
    simp only [List.getElem?_map,hq,Option.map_some,Option.bind_some,V.cells] at h
    match j,h with
    | 0,h=>simp at h; exact ⟨q,rfl,rfl,h.symm⟩
 have hcell:∀ (i:Nat) (q:List UInt8),l[i]?=some q→(w.alloc (.cells ((l.map fun q=>Value.string ⟨q.toArray⟩).toArray) ty)).cell? ⟨w.heap.size,i,none⟩=some (.string ⟨q.toArray⟩):=by
  intro i q h
  have hi:=(List.getElem?_eq_some_iff.1 h).1
  have hv:=(List.getElem?_eq_some_iff.1 h).2
  unfold World.cell?
  rw [aBf]
  simp [hi,hv]
 have hlen:n=(l.map V.str).length:=by simp [hn]
 rw [hlen]
 refine .lst 1 _ _ _ w.heap.size 0 (Nat.le_refl _) (by omega) (fun _=>⟨rfl,by rw [aC2]; omega,fun h=>by have:=hD _ h; omega⟩) (fun e he=>?_) (fun i j c h=>?_) (fun i j c h=>?_)
 ·obtain ⟨q,_,rfl⟩:=List.mem_map.1 he; rfl
 ·obtain ⟨q,h1,rfl,rfl⟩:=hc i j c h
  rw [show 0+i*1+0=i by omega,hcell i q h1]; rfl
 ·obtain ⟨q,h1,rfl,rfl⟩:=hc i j c h
  rw [show 0+i*1+0=i by omega,aEy,hcell i q h1]
  exact .str _ (hl q (List.mem_of_getElem? h1))
theorem aNx {s:List UInt8}:∀ q,q∈aA4 s→q.length≤s.length:=by
 induction s with
 | nil=>intro q hq; simp [aA4] at hq; simp [hq]
 | cons x r ih =>
   intro q hq
   obtain ⟨p,u,hp⟩:=aQj r
   simp only [aA4,hp] at hq ih
   split at hq
   ·simp only [List.mem_cons] at hq
    rcases hq with rfl | hq
    ·simp
    ·have:=ih q (by simpa using hq)
     simp; omega
   ·simp only [List.headD_cons,List.tail_cons,List.mem_cons] at hq
    rcases hq with rfl | hq
    ·have:=ih p (by simp)
     simp; omega
    ·have:=ih q (by simp [hq])
     simp; omega
theorem aZ4 (s:List UInt8):trimSuffix s [32]=unbl s:=by
 unfold trimSuffix unbl
 rcases List.eq_nil_or_concat s with rfl | ⟨u,x,rfl⟩
 ·rfl
 ·have e1:hasSuffix (u.concat x) [32]=((32:UInt8)==x):=by simp [hasSuffix,List.isSuffixOf,List.isPrefixOf]
  rw [e1]
  by_cases h:x=32
  ·subst h; simp
  ·have:((32:UInt8)==x)=false:=by rw [beq_eq_false_iff_ne]; exact fun e=>h e.symm
   simp [this,h]
theorem bEb (s:List UInt8):cut s [58]=match colF s with | none=>(s,[],false) | some i=>(s.take i,s.drop (i+1),true):=by
 have hi:index s [58]=indexByte s 58:=index_one s 58
 rw [aJg] at hi
 unfold cut colF
 cases h:s.findIdx? (·==58) with
 | none =>
   rw [h] at hi
   simp only at hi ⊢
   rw [hi,if_neg (by omega)]
 | some i =>
   rw [h] at hi
   simp only at hi ⊢
   rw [hi,if_pos (by omega)]
   simp
theorem bGg {x:Nat} {ty:Nat} (g:gint P x)
 (h1:∀ (s sep:ByteArray) (m:Int) (w:World),s.size<4294967281→w.cell? ⟨x,0,none⟩=some (.int .i64 m)→1≤sep.size →
  Calls P (F 171) #[.string s,.string sep] w fun e w'=>e=.returned (.slice (some ⟨w.heap.size,0,none⟩) (countB s sep+1) (countB s sep+1))∧w'=w.alloc (.cells ((splitB sep 0 (countB s sep) s).map Value.string).toArray ty))
 (h2:∀ (s sep:ByteArray) (m:Int) (w:World),s.size<4294967281→w.cell? ⟨x,0,none⟩=some (.int .i64 m) →
  Calls P (F 172) #[.string s,.string sep] w fun e w'=>e=.returned (.tuple #[.string ⟨(cut s.data.toList sep.data.toList).1.toArray⟩,.string ⟨(cut s.data.toList sep.data.toList).2.1.toArray⟩,.bool (cut s.data.toList sep.data.toList).2.2])∧∃ n,w'=w.drewN n)
 (h3:∀ (s p:ByteArray) (w:World),s.size≤9223372036854775807→Calls P (F 173) #[.string s,.string p] w fun e w'=>e=.returned (.string ⟨(trimSuffix s.data.toList p.data.toList).toArray⟩)∧w'=w)
 (h4:∀ (s:ByteArray) (c:Int) (w:World),Calls P (F 120) #[.string s,.int .u8 c] w fun e w'=>e=.returned (.int .i64 (indexByte s.data.toList c.toNat.toUInt8))∧w'=w):TitC P F:=by
 refine ⟨fun s hs=>?_,fun s hs=>?_,fun s hs=>?_,fun s c=>?_⟩
 ·intro D w vs hD hg hl hr
  obtain ⟨u,v,rfl,hu,hv⟩:=vs2 hl hr
  cases hu; cases hv
  obtain ⟨m,hm⟩:=hg x g
  refine (h1 ⟨s.toArray⟩ ⟨([47]:List UInt8).toArray⟩ m w (by simp [ByteArray.size]; omega) hm (by simp [ByteArray.size])).mono ?_
  rintro e w' ⟨rfl,rfl⟩
  have hd:=splitB_data ⟨([47]:List UInt8).toArray⟩ 0 (countB ⟨s.toArray⟩ ⟨([47]:List UInt8).toArray⟩) ⟨s.toArray⟩
  have hsp:=aQ2 s.length s (Nat.le_refl _)
  have hall:=splitB_all ⟨([47]:List UInt8).toArray⟩ (by simp [ByteArray.size]) 0 _ ⟨s.toArray⟩ rfl
  have hd2:(splitB ⟨([47]:List UInt8).toArray⟩ 0 (countB ⟨s.toArray⟩ ⟨([47]:List UInt8).toArray⟩) ⟨s.toArray⟩).map (·.data.toList)=aA4 s:=by rw [hd]; exact hsp
  generalize splitB ⟨([47]:List UInt8).toArray⟩ 0 (countB ⟨s.toArray⟩ ⟨([47]:List UInt8).toArray⟩) ⟨s.toArray⟩=l at *
  have hl2:l.length=(aA4 s).length:=by rw [← hd2,List.length_map]
  have hmap:l.map Value.string=(aA4 s).map fun q=>Value.string ⟨q.toArray⟩:=by
   rw [← hd2,List.map_map]
   exact List.map_congr_left fun b _=>rfl
  rw [hmap]
  have hcn:=count_le s [47]
  have hcn2:countB ⟨s.toArray⟩ ⟨([47]:List UInt8).toArray⟩=count s [47]:=rfl
  refine ⟨_,rfl,aC7 w _,bE9 hD (aA4 s) _ ty (by rw [← hl2,hall]) (fun q hq=>by have:=aNx q hq; omega) (by rw [hcn2]; omega)⟩
 ·intro D w vs hD hg hl hr
  obtain ⟨u,v,rfl,hu,hv⟩:=vs2 hl hr
  cases hu; cases hv
  obtain ⟨m,hm⟩:=hg x g
  refine (h2 ⟨s.toArray⟩ ⟨([58]:List UInt8).toArray⟩ m w (by simp [ByteArray.size]; omega) hm).mono ?_
  rintro e w' ⟨rfl,n,rfl⟩
  refine ⟨_,rfl,?_,?_⟩
  ·exact ⟨rfl,rfl,rfl,Nat.le_refl _,fun _ _=>rfl⟩
  ·have hc:=bEb s
   show Rep _ _ _ _ (.tuple #[.string ⟨(cut s [58]).1.toArray⟩,.string ⟨(cut s [58]).2.1.toArray⟩,.bool (cut s [58]).2.2])
   rw [hc]
   cases colF s with
   | none =>
     refine .tup _ _ rfl fun i c hi=>?_
     match i,hi with
     | 0,hi=>simp at hi; subst hi; exact .str _ (by omega)
     | 1,hi=>simp at hi; subst hi; exact .str _ (by simp)
     | 2,hi=>simp at hi; subst hi; exact .bool _
   | some k =>
     refine .tup _ _ rfl fun i c hi=>?_
     match i,hi with
     | 0,hi=>simp at hi; subst hi; exact .str _ (by rw [List.length_take]; omega)
     | 1,hi=>simp at hi; subst hi; exact .str _ (by rw [List.length_drop]; omega)
     | 2,hi=>simp at hi; subst hi; exact .bool _
 ·intro D w vs hD hg hl hr
  obtain ⟨u,v,rfl,hu,hv⟩:=vs2 hl hr
  cases hu; cases hv
  refine (h3 ⟨s.toArray⟩ ⟨([32]:List UInt8).toArray⟩ w (by simp [ByteArray.size]; omega)).mono ?_
  rintro e w' ⟨rfl,rfl⟩
  refine ⟨_,rfl,Go.RowKit.Below.refl _ _,?_⟩
  show Rep _ _ _ _ (.string ⟨(trimSuffix s [32]).toArray⟩)
  rw [aZ4]
  refine .str _ ?_
  unfold unbl
  split
  ·simp; omega
  ·omega
 ·intro D w vs hD hg hl hr
  obtain ⟨u,v,rfl,hu,hv⟩:=vs2 hl hr
  cases hu; cases hv
  refine (h4 ⟨s.toArray⟩ c.toNat w).mono ?_
  rintro e w' ⟨rfl,rfl⟩
  refine ⟨_,rfl,Go.RowKit.Below.refl _ _,?_⟩
  have:((c.toNat:Nat):Int).toNat.toUInt8=c:=by simp
  rw [this]
  exact .int _ _
end Go.Ab
namespace Go.Ab
open Go.Lib
def Sec.q (x:Sec):QSec:=⟨x.lev,x.title,x.fr,x.bd,x.to⟩
theorem aWc (l:List Sec):secV l=quV (l.map Sec.q):=by
 simp only [secV,quV,List.map_map]
 exact List.map_congr_left fun x _=>rfl
def aIu (s name:List UInt8):List UInt8×Bool :=
 if (aCd (trimS name wsp) ((aAv s).map Sec.q) 0).2 then (aGx s (aCd (trimS name wsp) ((aAv s).map Sec.q) 0).1,true) else ([],false)
structure Grd where
 st:Bool
 gr:List UInt8
 sp:Int
 n:List UInt8
 sec:List UInt8
def Grd.v (x:Grd):V:=.agg [.bool x.st,.str x.gr,.int .i64 x.sp,.str x.n,.str x.sec]
def gdV (l:List Grd):List V:=l.map Grd.v
def aMu (sec old now:List UInt8):Bool :=
 if sec=[] then !decide (old=now) else (aIu old sec).2 != (aIu now sec).2||!decide ((aIu old sec).1=(aIu now sec).1)
def hitG (g:List (List UInt8)) (sp:Int) (n old now:List UInt8) (x:Grd):Bool :=
 decide (x.sp=sp)&&decide (x.n=n)&&!g.contains x.gr&&aMu x.sec old now
def chgF (g:List (List UInt8)) (sp:Int) (n old now:List UInt8):List Grd→Int→Int
 | [],out=>out
 | x::r,out=>if hitG g sp n old now x then (if x.st then 3 else chgF g sp n old now r 2) else chgF g sp n old now r out
end Go.Ab
