/- Several texts of one kind, merged. No condition. -/
import Derived.Test.YtikmbicdjpkipaaGreatDoorAbY1
import Derived.Test.YtikmbicdjpkipaaGreatDoorAbC1
import Derived.Test.YtikmbicdjpkipaaGreatDoorAbM6
import Derived.Lib.Replace
import Derived.Lib.IndexAny
import Derived.Lib.FieldsP
import Derived.Test.YtikmbicdjpkipaaGreatDoorAbE4
import Derived.Test.YtikmbicdjpkipaaGreatDoorAbL2
import Derived.Test.YtikmbicdjpkipaaGreatDoorAbC2
set_option linter.unusedSimpArgs false
set_option linter.unusedVariables false
namespace Go.Ab
open Go.Lib
open Go.RowKit
variable {P:Program} {σ:Sy}
def BiOk (P:Program) (σ:Sy) (f:Nat) (g:List V→Option V):Prop:=∀ ar r,g ar=some r→PTr P f (ar.map (V.cz σ)) (r.cz σ)
def pbT:List (Nat×(List V→Option V))→Tr (List V→Option V)
 | []=>.leaf
 | x::r=>Tr.set 12 (pbT r) x.1 (some x.2)
def pbG (t:Tr (List V→Option V)):Pc:=fun f ar=>match t.get f with
 | some g=>g ar
 | none=>none
theorem aWn:∀ {l:List (Nat×(List V→Option V))} {f:Nat} {e:List V→Option V},(pbT l).get f=some e→(f,e)∈l
 | x::r,f,e,h=>by
   rw [pbT,Tr.get_set] at h
   split at h
   ·rename_i q
    cases h
    subst q
    exact List.mem_cons_self ..
   ·exact List.mem_cons_of_mem _ (aWn h)
theorem bGk {l:List (Nat×(List V→Option V))} (h:∀ x,x∈l→BiOk P σ x.1 x.2):aPp P σ (pbG (pbT l)):=by
 intro f ar r e
 unfold pbG at e
 split at e
 ·rename_i g q
  exact h _ (aWn q) _ _ e
 ·cases e
def biOr (a b:List V→Option V):List V→Option V:=fun l=>match a l with
 | some r=>some r
 | none=>b l
theorem bB1 {f:Nat} {a b:List V→Option V} (ha:BiOk P σ f a) (hb:BiOk P σ f b):BiOk P σ f (biOr a b):=by
 intro ar r h
 unfold biOr at h
 split at h
 ·rename_i e; cases h; exact ha _ _ e
 ·exact hb _ _ h
def asc (l:List UInt8):Bool:=l.all fun b=>Nat.blt b.toNat 128
theorem aNh {l:List UInt8} (h:asc l=true) (j:Nat) (b:UInt8) (hb:l[j]?=some b):b.toNat<128:=by
 have:=List.all_eq_true.1 h b (List.mem_of_getElem? hb)
 simpa [Nat.blt_eq] using this
theorem aUv {f:Nat} {a b:List UInt8} {r:V} {X:Value} (h:∀ (D:Nat→Prop) (w:World),GIn P D w →
 Calls P f #[.string ⟨a.toArray⟩,.string ⟨b.toArray⟩] w fun e w'=>e=.returned X∧Below w.heap.size w w') (hr:∀ D w,Rep (fun _=>none) D w r X):PTr P f [.str a,.str b] r:=by
 intro D w vs hD hg hl hr'
 obtain ⟨u,v,rfl,hu,hv⟩:=vs2 hl hr'
 cases hu; cases hv
 refine (h D w hg).mono ?_
 rintro e w' ⟨rfl,hb⟩
 exact ⟨_,rfl,hb,hr _ _⟩
def biSS (ok:List UInt8→List UInt8→Bool) (g:List UInt8→List UInt8→V):List V→Option V
 | [.str a,.str b]=>if ok a b=true then some (g a b) else none
 | _=>none
theorem aIp {f:Nat} {ok:List UInt8→List UInt8→Bool} {g:List UInt8→List UInt8→V} (h:∀ a b,ok a b=true→PTr P f [.str a,.str b] (g a b)) (hp:∀ a b,(g a b).pl=true):BiOk P σ f (biSS ok g):=by
 intro ar r e
 unfold biSS at e
 split at e
 ·rename_i a b
  split at e
  ·rename_i q
   cases e
   rw [aWu _ (hp a b)]
   exact h a b q
  ·cases e
 ·cases e
theorem aX6 {w w':World} (h:w'=w):Below w.heap.size w w':=h ▸ Below.refl _ _
theorem aPj {w w':World} (h:∃ n,w'=w.drewN n):Below w.heap.size w w':=by
 obtain ⟨n,rfl⟩:=h
 exact ⟨rfl,rfl,rfl,Nat.le_refl _,fun _ _=>rfl⟩
def okTr (g:List UInt8→List UInt8→List UInt8) (a b:List UInt8):Bool:=Nat.ble a.length 100000&&(Nat.ble b.length 100&&(asc b&&Nat.ble (g a b).length 100000))
theorem bD5 {f:Nat} {g:List UInt8→List UInt8→List UInt8} (h:∀ (s cs:ByteArray) (w:World),s.size≤9223372036854775807→cs.size<4294967281→(∀ (j:Nat) b,cs.data.toList[j]?=some b→b.toNat<128) →
 Calls P f #[.string s,.string cs] w fun e w'=>e=.returned (.string ⟨(g s.data.toList cs.data.toList).toArray⟩)∧Below w.heap.size w w'):BiOk P σ f (biSS (okTr g) fun a b=>.str (g a b)):=by
 refine aIp (fun a b q=>?_) fun _ _=>rfl
 simp only [okTr,Bool.and_eq_true,Nat.ble_eq] at q
 exact aUv (fun _ w _=>h ⟨a.toArray⟩ ⟨b.toArray⟩ w (by simp [ByteArray.size]; omega) (by simp [ByteArray.size]; omega) (aNh q.2.2.1)) fun D w=>.str _ (by omega)
def okS (a b:List UInt8):Bool:=Nat.ble a.length 100000&&Nat.ble b.length 100
theorem bG9 {f x:Nat} (g:gint P x) (h:∀ (s sep:ByteArray) (m:Int) (w:World),s.size<4294967281→w.cell? ⟨x,0,none⟩=some (.int .i64 m) →
 Calls P f #[.string s,.string sep] w fun e w'=>e=.returned (.tuple #[.string ⟨(cut s.data.toList sep.data.toList).1.toArray⟩,.string ⟨(cut s.data.toList sep.data.toList).2.1.toArray⟩,.bool (cut s.data.toList sep.data.toList).2.2])∧∃ n,w'=w.drewN n) :
 BiOk P σ f (biSS okS fun a b=>.tup [.str (cut a b).1,.str (cut a b).2.1,.bool (cut a b).2.2]):=by
 refine aIp (fun a b q=>?_) fun _ _=>rfl
 simp only [okS,Bool.and_eq_true,Nat.ble_eq] at q
 have hl:(cut a b).1.length≤a.length∧(cut a b).2.1.length≤a.length:=by
  unfold cut
  split
  ·simp only [List.length_take,List.length_drop]; omega
  ·simp
 refine aUv (X:=.tuple #[.string ⟨(cut a b).1.toArray⟩,.string ⟨(cut a b).2.1.toArray⟩,.bool (cut a b).2.2]) (fun _ w hg=>?_) fun D w=>?_
 ·obtain ⟨m,hm⟩:=hg.1 x g
  refine (h ⟨a.toArray⟩ ⟨b.toArray⟩ m w (by simp [ByteArray.size]; omega) hm).mono ?_
  rintro e w' ⟨rfl,hn⟩
  exact ⟨rfl,aPj hn⟩
 ·refine .tup _ _ rfl fun i c hi=>?_
  match i,hi with
  | 0,hi=>simp at hi; subst hi; exact .str _ (by omega)
  | 1,hi=>simp at hi; subst hi; exact .str _ (by omega)
  | 2,hi=>simp at hi; subst hi; exact .bool _
theorem bFn {f:Nat} (h:∀ (s p:ByteArray) (w:World),s.size≤9223372036854775807→Calls P f #[.string s,.string p] w fun e w'=>e=.returned (.string ⟨(trimSuffix s.data.toList p.data.toList).toArray⟩)∧w'=w) :
 BiOk P σ f (biSS okS fun a b=>.str (trimSuffix a b)):=by
 refine aIp (fun a b q=>?_) fun _ _=>rfl
 simp only [okS,Bool.and_eq_true,Nat.ble_eq] at q
 refine aUv (X:=.string ⟨(trimSuffix a b).toArray⟩) (fun _ w hg=>(h ⟨a.toArray⟩ ⟨b.toArray⟩ w (by simp [ByteArray.size]; omega)).mono ?_) fun D w=>.str _ ?_
 ·rintro e w' ⟨rfl,hn⟩
  exact ⟨rfl,aX6 hn⟩
 ·unfold trimSuffix
  split
  ·rw [List.length_take]; omega
  ·omega
def okA (a b:List UInt8):Bool:=Nat.ble a.length 100000&&(Nat.ble b.length 100&&(asc a&&asc b))
theorem bDp {f:Nat} (h:∀ (s cs:ByteArray) (w:World),s.size<4294967281→cs.size<4294967281→(∀ (j:Nat) b,s.data.toList[j]?=some b→b.toNat<128)→(∀ (j:Nat) b,cs.data.toList[j]?=some b→b.toNat<128) →
 Calls P f #[.string s,.string cs] w fun e w'=>e=.returned (.int .i64 (indexAny s.data.toList cs.data.toList))∧Below w.heap.size w w'):BiOk P σ f (biSS okA fun a b=>.int .i64 (indexAny a b)):=by
 refine aIp (fun a b q=>?_) fun _ _=>rfl
 simp only [okA,Bool.and_eq_true,Nat.ble_eq] at q
 exact aUv (fun _ w _=>h ⟨a.toArray⟩ ⟨b.toArray⟩ w (by simp [ByteArray.size]; omega) (by simp [ByteArray.size]; omega) (aNh q.2.2.1) (aNh q.2.2.2)) fun D w=>.int _ _
theorem bDf {f:Nat} (h:∀ (s cs:ByteArray) (w:World),s.size<4294967281→cs.size<4294967281→(∀ (j:Nat) b,s.data.toList[j]?=some b→b.toNat<128)→(∀ (j:Nat) b,cs.data.toList[j]?=some b→b.toNat<128) →
 Calls P f #[.string s,.string cs] w fun e w'=>e=.returned (.bool (containsAny s.data.toList cs.data.toList))∧Below w.heap.size w w'):BiOk P σ f (biSS okA fun a b=>.bool (containsAny a b)):=by
 refine aIp (fun a b q=>?_) fun _ _=>rfl
 simp only [okA,Bool.and_eq_true,Nat.ble_eq] at q
 exact aUv (fun _ w _=>h ⟨a.toArray⟩ ⟨b.toArray⟩ w (by simp [ByteArray.size]; omega) (by simp [ByteArray.size]; omega) (aNh q.2.2.1) (aNh q.2.2.2)) fun D w=>.bool _
def biIB:List V→Option V
 | [.str a,.int .u8 c]=>some (.int .i64 (indexByte a c.toNat.toUInt8))
 | _=>none
theorem bLq {f:Nat} (h:∀ (s:ByteArray) (c:Int) (w:World),Calls P f #[.string s,.int .u8 c] w fun e w'=>e=.returned (.int .i64 (indexByte s.data.toList c.toNat.toUInt8))∧w'=w):BiOk P σ f biIB:=by
 intro ar r e
 unfold biIB at e
 split at e
 ·rename_i a c
  cases e
  intro D w vs hD hg hl hr
  obtain ⟨u,v,rfl,hu,hv⟩:=vs2 hl hr
  cases hu; cases hv
  refine (h ⟨a.toArray⟩ c w).mono ?_
  rintro e w' ⟨rfl,rfl⟩
  exact ⟨_,rfl,Below.refl _ _,.int _ _⟩
 ·cases e
def okR (a b:List UInt8):Bool:=Nat.ble a.length 100000&&(decide (b=[95])&&(!a.contains 95))
def biRep:List V→Option V
 | [.str a,.str b,.str c]=>if okR a b&&Nat.ble c.length 100 then some (.str a) else none
 | _=>none
theorem vs3 {G:Ghost} {D:Nat→Prop} {w:World} {x y z:V} {vs:Array Value} (hl:[x,y,z].length=vs.size) (hr:∀ i c,[x,y,z][i]?=some c→Rep G D w c (vs.getD i undef)):∃ u v t,vs=#[u,v,t]∧Rep G D w x u∧Rep G D w y v∧Rep G D w z t:=by
 match vs,hl with
 | ⟨[u,v,t]⟩,_=>exact ⟨u,v,t,rfl,hr 0 x rfl,hr 1 y rfl,hr 2 z rfl⟩
theorem bG4 {f x:Nat} (g:gint P x) (h:∀ (s old new:ByteArray) (m:Int) (w:World),s.size<4294967281→w.cell? ⟨x,0,none⟩=some (.int .i64 m)→1≤old.size→s.size+countB s old*new.size≤140737488355328 →
 Calls P f #[.string s,.string old,.string new] w fun e w'=>e=.returned (.string ⟨(replaceAll s.data.toList old.data.toList new.data.toList).toArray⟩)∧Below w.heap.size w w'):BiOk P σ f biRep:=by
 intro ar r e
 unfold biRep at e
 split at e
 ·rename_i a b c
  split at e
  ·rename_i q
   cases e
   simp only [okR,Bool.and_eq_true,Nat.ble_eq,decide_eq_true_eq,Bool.not_eq_true'] at q
   obtain ⟨⟨q1,rfl,q3⟩,q4⟩:=q
   have hi:index a [95]=-1:=by
    rw [show index a [95]=indexByte a 95 from index_one a 95,aK2]
    have:a.findIdx? (·==95)=none:=by
     rw [List.findIdx?_eq_none_iff]
     intro b hb
     rw [Bool.eq_false_iff]
     intro e
     have:a.contains 95=true:=by rw [List.contains_iff_mem]; rwa [show b=95 by simpa using e] at hb
     rw [this] at q3; cases q3
    rw [this]
   have hc:count a [95]=0:=count_miss hi
   have hr:replaceAll a [95] c=a:=by
    unfold replaceAll replace
    split
    ·rfl
    ·rw [replaceNum,if_pos (.inl (by omega)),hc,replaceK]
   intro D w vs hD hg hl hr'
   obtain ⟨u,v,t,rfl,hu,hv,ht⟩:=vs3 hl hr'
   cases hu; cases hv; cases ht
   obtain ⟨m,hm⟩:=hg.1 x g
   refine (h ⟨a.toArray⟩ ⟨([95]:List UInt8).toArray⟩ ⟨c.toArray⟩ m w (by simp [ByteArray.size]; omega) hm (by simp [ByteArray.size]) ?_).mono ?_
   ·have:countB ⟨a.toArray⟩ ⟨([95]:List UInt8).toArray⟩=0:=hc
    rw [this,Nat.zero_mul]
    simp [ByteArray.size]; omega
   ·rintro e w' ⟨rfl,hb⟩
    refine ⟨_,rfl,hb,?_⟩
    show Rep _ _ _ (.str a) (.string ⟨(replaceAll a [95] c).toArray⟩)
    rw [hr]
    exact .str _ (by omega)
  ·cases e
 ·cases e
def biJoin:List V→Option V
 | [.lst 1 [.str a],.str b]=>if okS a b then some (.str a) else none
 | _=>none
theorem bD9 {f:Nat} (h:∀ (bk o c:Nat) (xs:List ByteArray) (sep:ByteArray) (w:World),(∀ (j:Nat) x,xs[j]?=some x→w.cell? ⟨bk,o+j,none⟩=some (.string x))→bk<w.heap.size→xs.length≤140737488355328→xs.length≤c→(join (xs.map (·.data.toList)) sep.data.toList).length≤140737488355328 →
 Calls P f #[.slice (some ⟨bk,o,none⟩) xs.length c,.string sep] w fun e w'=>e=.returned (.string ⟨(join (xs.map (·.data.toList)) sep.data.toList).toArray⟩)∧Below w.heap.size w w'):BiOk P σ f biJoin:=by
 intro ar r e
 unfold biJoin at e
 split at e
 ·rename_i a b
  split at e
  ·rename_i q
   cases e
   simp only [okS,Bool.and_eq_true,Nat.ble_eq] at q
   intro D w vs hD hg hl hr
   obtain ⟨u,v,rfl,hu,hv⟩:=vs2 hl hr
   cases hv
   rcases hu with _ | _ | _ | _ | _ | _ | _ | _ | _ | ⟨_,_,ad,cap,bk,o,hc,hl2,ha,hz,hs,hr2⟩
   obtain ⟨rfl,hbk,_⟩:=ha (by simp [V.czL])
   have hs1:=hs 0 0 (.str a) rfl
   have hr1:=hr2 0 0 (.str a) rfl
   have hcell:w.cell? ⟨bk,o,none⟩=some (.string ⟨a.toArray⟩):=by
    simp only [Nat.zero_mul,Nat.add_zero] at hs1 hr1
    unfold aCg at hr1
    cases hq:w.cell? ⟨bk,o,none⟩ with
    | none=>rw [hq] at hs1; cases hs1
    | some y =>
      rw [hq] at hr1
      simp only [Option.getD_some] at hr1
      generalize y=z at hr1
      cases hr1
      rfl
   refine (h bk o cap [⟨a.toArray⟩] ⟨b.toArray⟩ w (fun j x hx=>?_) hbk (by simp) hc ?_).mono ?_
   ·match j,hx with
    | 0,hx=>simp at hx; subst hx; simpa using hcell
   ·simp [join_one]; omega
   ·rintro e w' ⟨rfl,hb⟩
    refine ⟨_,rfl,hb,?_⟩
    simp only [List.map_cons,List.map_nil,join_one]
    exact .str _ (by omega)
  ·cases e
 ·cases e
def aUe:List V→Option V
 | [.str a,.str b]=>if decide (b=[47])&&Nat.ble a.length 100000 then some (.lst 1 ((aCc a).map .str)) else none
 | _=>none
def aU4:List V→Option V
 | [.str a,.str b]=>if decide (b=[10])&&Nat.ble a.length 100000 then some (.lst 1 ((lnF a).map .str)) else none
 | _=>none
theorem aWf (l:List (List UInt8)):(V.lst 1 (l.map .str)).cz σ=.lst 1 (l.map .str):=by
 rw [aGf,List.map_map]
 rfl
theorem aM6 {f x ty:Nat} (g:gint P x) (h1:∀ (s sep:ByteArray) (m:Int) (w:World),s.size<4294967281→w.cell? ⟨x,0,none⟩=some (.int .i64 m)→1≤sep.size →
 Calls P f #[.string s,.string sep] w fun e w'=>e=.returned (.slice (some ⟨w.heap.size,0,none⟩) (countB s sep+1) (countB s sep+1))∧w'=w.alloc (.cells ((splitB sep 0 (countB s sep) s).map Value.string).toArray ty))
 (c:UInt8) (s:List UInt8) (l0:List (List UInt8)) (hs:s.length≤100000) (hsp:split s [c]=l0) (hlen:∀ q,q∈l0→q.length<2^63):PTr P f [.str s,.str [c]] (.lst 1 (l0.map .str)):=by
 intro D w vs hD hg hl hr
 obtain ⟨u,v,rfl,hu,hv⟩:=vs2 hl hr
 cases hu; cases hv
 obtain ⟨m,hm⟩:=hg.1 x g
 refine (h1 ⟨s.toArray⟩ ⟨([c]:List UInt8).toArray⟩ m w (by simp [ByteArray.size]; omega) hm (by simp [ByteArray.size])).mono ?_
 rintro e w' ⟨rfl,rfl⟩
 have hd:=splitB_data ⟨([c]:List UInt8).toArray⟩ 0 (countB ⟨s.toArray⟩ ⟨([c]:List UInt8).toArray⟩) ⟨s.toArray⟩
 have hall:=splitB_all ⟨([c]:List UInt8).toArray⟩ (by simp [ByteArray.size]) 0 _ ⟨s.toArray⟩ rfl
 have hd2:(splitB ⟨([c]:List UInt8).toArray⟩ 0 (countB ⟨s.toArray⟩ ⟨([c]:List UInt8).toArray⟩) ⟨s.toArray⟩).map (·.data.toList)=l0:=by rw [hd]; exact hsp
 generalize splitB ⟨([c]:List UInt8).toArray⟩ 0 (countB ⟨s.toArray⟩ ⟨([c]:List UInt8).toArray⟩) ⟨s.toArray⟩=l at *
 have hl2:l.length=l0.length:=by rw [← hd2,List.length_map]
 have hmap:l.map Value.string=l0.map fun q=>Value.string ⟨q.toArray⟩:=by
  rw [← hd2,List.map_map]
  exact List.map_congr_left fun b _=>rfl
 rw [hmap]
 have hcn:=count_le s [c]
 have hcn2:countB ⟨s.toArray⟩ ⟨([c]:List UInt8).toArray⟩=count s [c]:=rfl
 exact ⟨_,rfl,aBg w _,bCo hD l0 _ ty (by rw [← hl2,hall]) hlen (by rw [hcn2]; omega)⟩
theorem bGg {f x ty:Nat} (g:gint P x) (h1:∀ (s sep:ByteArray) (m:Int) (w:World),s.size<4294967281→w.cell? ⟨x,0,none⟩=some (.int .i64 m)→1≤sep.size →
 Calls P f #[.string s,.string sep] w fun e w'=>e=.returned (.slice (some ⟨w.heap.size,0,none⟩) (countB s sep+1) (countB s sep+1))∧w'=w.alloc (.cells ((splitB sep 0 (countB s sep) s).map Value.string).toArray ty)):BiOk P σ f (biOr aUe aU4):=by
 refine bB1 (fun ar r e=>?_) fun ar r e=>?_
 ·unfold aUe at e
  split at e
  ·rename_i a b
   split at e
   ·rename_i q
    cases e
    simp only [Bool.and_eq_true,Nat.ble_eq,decide_eq_true_eq] at q
    obtain ⟨rfl,q⟩:=q
    rw [aWf]
    exact aM6 g h1 47 a _ q (aO0 a.length a (Nat.le_refl _)) fun p hp=>by have:=aUd p hp; omega
   ·cases e
  ·cases e
 ·unfold aU4 at e
  split at e
  ·rename_i a b
   split at e
   ·rename_i q
    cases e
    simp only [Bool.and_eq_true,Nat.ble_eq,decide_eq_true_eq] at q
    obtain ⟨rfl,q⟩:=q
    rw [aWf]
    exact aM6 g h1 10 a _ q (bAk a.length a (Nat.le_refl _)) fun p hp=>by
     have h2:=aTl a
     have:=aQq hp
     omega
   ·cases e
  ·cases e
end Go.Ab
namespace Go.Ab
def c385 (F T:Nat→Nat):C :=
 .n [.mov (some 2) (.s [])] <|
 .n [.m 5 0,.e 6 38 (F 171) [.t 5,.s [47]],.m 3 6] <|
 .seq (.n [.m 7 3,.ll 8 7,.mov (some 9) (.i 0)] <|
 .block 0 <|
 .loop <|
 .n [.b 10 .lss 9 8] <|
 .seq (.cond (.t 10)
 (.skip)
 (.exit 0)) <|
 .seq (.block 1 <|
 .n [.m 11 9,.m 4 11] <|
 .seq (.n [.m 12 4,.bi 13 .gtr 12 0] <|
 .cond (.t 13)
 (.o [.m 14 3,.m 15 4,.m 16 3,.m 17 4,.ia 18 1 16 17,.l 19 18,.c 20 (F 144) [.t 19,.s [32]],.ia 21 1 14 15,.store 1 (.t 21) (.t 20)])
 (.skip)) <|
 .n [.m 22 4,.m 23 3,.ll 24 23,.bi 25 .sub 24 1,.b 26 .lss 22 25] <|
 .cond (.t 26)
 (.o [.m 27 3,.m 28 4,.m 29 3,.m 30 4,.ia 31 1 29 30,.l 32 31,.c 33 (F 143) [.t 32,.s [32]],.ia 34 1 27 28,.store 1 (.t 34) (.t 33)])
 (.skip)) <|
 .o [.bi 35 .add 9 1,.m 9 35]) <|
 .n [.m 36 3,.call (some 37) false (F 289) [.t 36,.s [47]],.m 2 37] <|
 .ret
abbrev bGn (P:Program) (F T:Nat→Nat):Prop:=Fn P (F 385) 38 [(2,none)] (c385 F T)
end Go.Ab
namespace Go.Ab
open Go.Lib Go.RowKit
variable {P:Program}
theorem vs2G {G:Ghost} {vs:Array Value} {D:Nat→Prop} {w:World} {a b:V} (hl:[a,b].length=vs.size)
 (h:∀ i x,[a,b][i]?=some x→Rep G D w x (vs.getD i undef)):∃ u v,vs=#[u,v]∧Rep G D w a u∧Rep G D w b v:=by
 refine ⟨vs.getD 0 undef,vs.getD 1 undef,?_,h 0 a rfl,h 1 b rfl⟩
 apply Array.ext
 ·simpa using hl.symm
 ·intro i h1 h2
  match i with
  | 0=>simp [Array.getD,show 0<vs.size by simpa using h1]
  | 1=>simp [Array.getD,show 1<vs.size by simpa using h1]
  | k+2=>exact absurd h2 (by simp)
theorem Hp.newBlk {D:Nat→Prop} {L:Heap} {nx:Nat} {G:Ghost} {w w':World} (hh:Hp P D 0 ⟨fun _=>.junk,L,nx⟩ G w) (hb:Below w.heap.size w w') (b:Blk) (gb:GB)
 (hocc:∀ x,Occ gb b x→w.heap.size≤x∧x<w'.heap.size)
 (hok:∀ G' D',(∀ x v,Rep G (Dp D L G) w x v→Rep G' D' w' x v)→BlkOk G' D' w' gb b) :
 Hp P D 0 ⟨fun _=>.junk,upd L nx (some b),nx+1⟩ (upd G nx (some gb)) w'∧Nxt L G w (upd L nx (some b)) (upd G nx (some gb)) w':=by
 have hid:G nx=none:=hh.fin nx (Nat.le_refl _)
 have hLid:L nx=none:=by
  cases h:L nx with
  | none=>rfl
  | some b' =>
    obtain ⟨g,h1,_⟩:=hh.blk nx b' h
    rw [hid] at h1; cases h1
 have hx:Nxt L G w (upd L nx (some b)) (upd G nx (some gb)) w':=by
  refine ⟨aQc hid gb,⟨hb.size,fun x h _=>hb.block x h⟩,?_,hb.os,hb.tape,hb.output⟩
  rintro x hx ⟨i,bi,gi,h1,h2,h3⟩
  by_cases e:i=nx
  ·subst e
   simp only [aAe,Option.some.injEq] at h1 h2
   subst h1 h2
   have:=hocc x h3
   omega
  ·simp only [aAd _ _ _ _ e] at h1 h2
   exact ⟨i,bi,gi,h1,h2,h3⟩
 refine ⟨?_,hx⟩
 refine hh.turn (·=nx) hx (fun i hi=>(aAd _ _ _ _ (show i≠nx from fun e=>by subst e; exact absurd hi (by show ¬ (_+1+0≤_); omega))).trans (hh.fin i (by have:nx+1+0≤i:=hi; show nx+0≤i; omega))) (fun i bi hl hne=>?_) (fun i bi gi x hl hne hgi ho=>?_) (fun i bi gi _ hne hgi=>by rw [aAd _ _ _ _ hne]; exact hgi) (fun i j hi hj=>hi.trans hj.symm) (fun i bi hl hi=>?_)
 ·simpa only [aAd _ _ _ _ hne] using hl
 ·simp only [aAd _ _ _ _ hne] at hl
  exact hb.block x (hh.away x ⟨i,bi,gi,hl,hgi,ho⟩).1
 ·subst hi
  simp only [aAe,Option.some.injEq] at hl
  subst hl
  refine ⟨gb,aAe _ _ _,hok _ _ fun x v hr=>hx.rep hr,fun x ho=>?_⟩
  have h1:=hocc x ho
  refine ⟨h1.2,fun hd=>?_,fun i2 b2 g2 hl2 hn2 hg2 ho2=>?_⟩
  ·have:=hh.dlt x hd; omega
  ·simp only [aAd _ _ _ _ hn2] at hl2
   have:=(hh.away x ⟨i2,b2,g2,hl2,hg2,ho2⟩).1
   omega
theorem aZf {f x ty:Nat} (g:gint P x) (h1:∀ (s sep:ByteArray) (m:Int) (w:World),s.size<4294967281→w.cell? ⟨x,0,none⟩=some (.int .i64 m)→1≤sep.size →
 Calls P f #[.string s,.string sep] w fun e w'=>e=.returned (.slice (some ⟨w.heap.size,0,none⟩) (countB s sep+1) (countB s sep+1))∧w'=w.alloc (.cells ((splitB sep 0 (countB s sep) s).map Value.string).toArray ty))
 (c:UInt8) (s:List UInt8) (l0:List (List UInt8)) (hs:s.length≤100000) (hsp:split s [c]=l0) (hlen:∀ q,q∈l0→q.length<2^63) (L:Heap) (nx:Nat) :
 ECall P f [.str s,.str [c]] L nx fun r L' nx'=>r=.own nx 1 0 l0.length∧L'=upd L nx (some (.vec ty 1 (l0.map .str)))∧nx'=nx+1:=by
 refine ⟨⟨_,_,_,rfl,rfl,rfl⟩,fun D G w vs hh hl hr=>?_⟩
 obtain ⟨u,v,rfl,hu,hv⟩:=vs2G hl hr
 cases hu; cases hv
 obtain ⟨_,_,m,hm⟩:=hh.gl.1 x g
 refine (h1 ⟨s.toArray⟩ ⟨([c]:List UInt8).toArray⟩ m w (by simp [ByteArray.size]; omega) hm (by simp [ByteArray.size])).mono ?_
 rintro e w' ⟨rfl,rfl⟩
 have hd:=splitB_data ⟨([c]:List UInt8).toArray⟩ 0 (countB ⟨s.toArray⟩ ⟨([c]:List UInt8).toArray⟩) ⟨s.toArray⟩
 have hall:=splitB_all ⟨([c]:List UInt8).toArray⟩ (by simp [ByteArray.size]) 0 _ ⟨s.toArray⟩ rfl
 have hd2:(splitB ⟨([c]:List UInt8).toArray⟩ 0 (countB ⟨s.toArray⟩ ⟨([c]:List UInt8).toArray⟩) ⟨s.toArray⟩).map (·.data.toList)=l0:=by rw [hd]; exact hsp
 generalize splitB ⟨([c]:List UInt8).toArray⟩ 0 (countB ⟨s.toArray⟩ ⟨([c]:List UInt8).toArray⟩) ⟨s.toArray⟩=l at *
 have hl2:l.length=l0.length:=by rw [← hd2,List.length_map]
 have hmap:l.map Value.string=l0.map fun q=>Value.string ⟨q.toArray⟩:=by
  rw [← hd2,List.map_map]
  exact List.map_congr_left fun b _=>rfl
 rw [hmap]
 have hcn:=count_le s [c]
 have hcn2:countB ⟨s.toArray⟩ ⟨([c]:List UInt8).toArray⟩=count s [c]:=rfl
 have hall2:countB ⟨s.toArray⟩ ⟨([c]:List UInt8).toArray⟩+1=l0.length:=by rw [← hl2,hall]
 rw [hall2]
 have hn63:l0.length<2^63:=by omega
 have hcell:∀ (i:Nat) (q:List UInt8),l0[i]?=some q→((l0.map fun q=>Value.string ⟨q.toArray⟩).toArray).getD i undef=.string ⟨q.toArray⟩:=by
  intro i q h
  have hi:=(List.getElem?_eq_some_iff.1 h).1
  have hv:=(List.getElem?_eq_some_iff.1 h).2
  simp [hi,hv]
 obtain ⟨g1,g2⟩:=hh.newBlk (aBg w (.cells ((l0.map fun q=>Value.string ⟨q.toArray⟩).toArray) ty)) (.vec ty 1 (l0.map .str)) ⟨w.heap.size,0,l0.length,1,0⟩ (fun x hx=>by simp only [Occ] at hx; rw [hx.2,size_alloc]; omega) (fun G' D' hm=>by
  refine ⟨rfl,by simp,by show l0.length<2^63; omega,fun e' he'=>?_,fun _=>⟨_,_,_,aAw _ _,⟨by show 0+l0.length*1≤_; simp,rfl⟩,⟨fun i _=>(by simp),fun h=>absurd rfl h⟩,fun i j x hx=>?_⟩⟩
  ·obtain ⟨b,_,rfl⟩:=List.mem_map.1 he'
   rfl
  ·cases hb:l0[i]? with
   | none =>
     simp only [List.getElem?_map,hb,Option.map_none,Option.bind_none] at hx
     cases hx
   | some b =>
     simp only [List.getElem?_map,hb,Option.map_some,Option.bind_some,V.cells] at hx
     cases j with
     | zero =>
       simp only [List.getElem?_cons_zero,Option.some.injEq] at hx
       subst hx
       rw [show (⟨w.heap.size,0,l0.length,1,0⟩:GB).off+i*1+0=i from by show 0+i*1+0=i; omega,hcell i b hb]
       exact .str _ (hlen b (List.mem_of_getElem? hb))
     | succ j=>simp at hx)
 exact ⟨_,_,_,_,_,rfl,⟨rfl,rfl,rfl⟩,g1,Nat.le_succ _,g2,.own _ _ _ _ ⟨w.heap.size,0,l0.length,1,0⟩ _ _ (aAe _ _ _) rfl (Nat.le_refl _) rfl (by show l0.length<2^63; omega) (fun _=>by simp)⟩
end Go.Ab
namespace Go.Ab
open Go.Lib Go.RowKit
variable {P:Program} {F T:Nat→Nat}
theorem aX4 {f:Nat} (h:∀ (bk o c:Nat) (xs:List ByteArray) (sep:ByteArray) (w:World),(∀ (j:Nat) x,xs[j]?=some x→w.cell? ⟨bk,o+j,none⟩=some (.string x))→bk<w.heap.size→xs.length≤140737488355328→xs.length≤c→(join (xs.map (·.data.toList)) sep.data.toList).length≤140737488355328 →
 Calls P f #[.slice (some ⟨bk,o,none⟩) xs.length c,.string sep] w fun e w'=>e=.returned (.string ⟨(join (xs.map (·.data.toList)) sep.data.toList).toArray⟩)∧Below w.heap.size w w')
 {a b c r:List UInt8} (hr:join [a,b] c=r) (hrl:r.length≤100000):PTr P f [.lst 1 [.str a,.str b],.str c] (.str r):=by
 intro D w vs hD hg hl hr'
 obtain ⟨u,v,rfl,hu,hv⟩:=vs2 hl hr'
 cases hv
 rcases hu with _ | _ | _ | _ | _ | _ | _ | _ | _ | ⟨_,_,ad,cap,bk,o,hc,hl2,ha,hz,hs,hr2⟩
 obtain ⟨rfl,hbk,_⟩:=ha (by simp)
 have cell:∀ (i:Nat) (x:List UInt8),[V.str a,V.str b][i]?=some (.str x)→w.cell? ⟨bk,o+i,none⟩=some (.string ⟨x.toArray⟩):=fun i x hx=>by
  have hs1:=hs i 0 (.str x) (by rw [hx]; rfl)
  have hr1:=hr2 i 0 (.str x) (by rw [hx]; rfl)
  rw [show o+i*1+0=o+i by omega] at hs1 hr1
  unfold aCg at hr1
  cases hq:w.cell? ⟨bk,o+i,none⟩ with
  | none=>rw [hq] at hs1; cases hs1
  | some y =>
    rw [hq] at hr1
    simp only [Option.getD_some] at hr1
    generalize y=z at hr1
    cases hr1
    rfl
 refine (h bk o cap [⟨a.toArray⟩,⟨b.toArray⟩] ⟨c.toArray⟩ w (fun j x hx=>?_) hbk (by simp) hc ?_).mono ?_
 ·match j,hx with
  | 0,hx=>simp at hx; subst hx; exact cell 0 a rfl
  | 1,hx=>simp at hx; subst hx; exact cell 1 b rfl
 ·simp only [List.map_cons,List.map_nil,hr]; omega
 ·rintro e w' ⟨rfl,hb⟩
  refine ⟨_,rfl,hb,?_⟩
  simp only [List.map_cons,List.map_nil,hr]
  exact .str _ (by omega)
theorem t385 (hf:bGn P F T) {ty:Nat} (hs:∀ L nx,ECall P (F 171) [.str [65,47,67],.str [47]] L nx (fun r L' nx'=>r=.own nx 1 0 2∧L'=upd L nx (some (.vec ty 1 [.str [65],.str [67]]))∧nx'=nx+1))
 (hl:PTr P (F 144) [.str [67],.str [32]] (.str [67])) (hr:PTr P (F 143) [.str [65],.str [32]] (.str [65])) (hj:PTr P (F 289) [.lst 1 [.str [65],.str [67]],.str [47]] (.str [65,47,67])):PTr P (F 385) [.str [65,47,67]] (.str [65,47,67]):=by
 refine ptrC [] hf (by simp) rfl ?_
 simp only [c385,push_cast,seval,-Nat.reducePow]
 refine aAh (hs _ _) ?_
 rintro r L1 nx1 ⟨rfl,rfl,rfl⟩
 simp only [push_cast,seval,-Nat.reducePow]
 refine aAm (fun m s1=>∃ i:Nat,i≤2∧m=2-i∧s1.env 3=.own 76 1 0 2∧s1.env 8=.int .i64 2∧s1.env 9=.int .i64 i∧s1.L 76=some (.vec ty 1 [.str [65],.str [67]])) 2 ⟨0,by omega,by omega,?_⟩ fun m s1 hJ=>?_
 ·simp only [push_cast,seval,-Nat.reducePow]
 ·obtain ⟨i,hi,rfl,j3,j8,j9,jL⟩:=hJ
  rcases (show i=0∨i=1∨i=2 by omega) with rfl | rfl | rfl
  ·simp only [push_cast,seval,-Nat.reducePow,j3,j8,j9,jL]
   refine aAa hr (by simp only [push_cast,seval,-Nat.reducePow]) rfl ?_
   simp only [push_cast,seval,-Nat.reducePow,j3,j8,j9,jL]
   exact ⟨1,by omega,1,by omega,rfl,rfl,rfl⟩
  ·simp only [push_cast,seval,-Nat.reducePow,j3,j8,j9,jL]
   refine aAa hl (by simp only [push_cast,seval,-Nat.reducePow]) rfl ?_
   simp only [push_cast,seval,-Nat.reducePow,j3,j8,j9,jL]
   exact ⟨0,by omega,2,by omega,rfl,rfl,rfl⟩
  ·simp only [push_cast,seval,-Nat.reducePow,j3,j8,j9,jL]
   refine aL3 (r:=.str [65,47,67]) ?_ ?_ rfl ?_
   ·simpa [view,jL] using hj
   ·simp [view,jL,V.imms,V.imm]
   ·exact aAc 3 _ rfl
end Go.Ab
namespace Go.Ab
open Go.Lib
variable {P:Program} {F T:Nat→Nat}
def MayP (P:Program) (F:Nat→Nat) (t:Ttl):Prop :=
 ∀ (gv:List V) (rs:List Rul) (dv:List V) (g:List (List UInt8)) (right:Int),V.imms gv=true→V.imms dv=true→rs.length≤2^60→g.length≤2^60 →
   PTr P (F 178) [polV gv rs dv,.lst 1 (g.map .str),.int .i64 right,tV t] (.bool (mayF rs g right t.1 t.2))∧PTr P (F 192) [polV gv rs dv,.lst 1 (g.map .str),.int .i64 right,tV t] (.bool (mayF rs g right t.1 t.2))
theorem mayP (h178:bCr P F T) (h182:bDg P F T) (h220:bB4 P F T) (h222:bAa P F T) (h192:bEq P F T) (h193:bE0 P F T) (h195:bD2 P F T) {t:Ttl} (hv:aD8 t.1 t.2=true)
 (a185:PTr P (F 185) [tV t] (.bool true)) (a181:PTr P (F 181) [tV t] (.lst 3 (scV (levF t.1 t.2)))) (a199:PTr P (F 199) [tV t] (.bool true)) (a194:PTr P (F 194) [tV t] (.lst 3 (scV (levF t.1 t.2)))):MayP P F t:=by
 intro gv rs dv g right hgv hdv hrs hg
 exact ⟨t178 h178 (by rw [hv]; exact a185) (fun _=>a181) (t182 h182) (fun x=>t220 h220 h222 g x hg) gv rs dv hgv hdv hrs right,
  t192 h192 (by rw [hv]; exact a199) (fun _=>a194) (t195 h195) (fun x=>t193 h193 g x hg) gv rs dv hgv hdv hrs right⟩
theorem aFr {w:List UInt8} {x y z:V} {n:Int} (h3:One3 x y z) (h:PTr P (F 316) [.str w] (.tup [.agg [x,y,z],.int .i64 n,.int .i64 0])):PolC P F w:=⟨x,y,z,n,h,h3.1,h3.2.1,h3.2.2.1,h3.2.2.2⟩
theorem aZt {f:Nat} {a b r:List V} {v:V} (h:a.length<2^63→b.length<2^63→PTr P f (.lst 1 a::.lst 1 b::r) v):PTr P f (.lst 1 a::.lst 1 b::r) v:=by
 intro D w vs hD hg hl hr
 have ln:∀ (x:Value) (c:List V),Rep (fun _=>none) D w (.lst 1 c) x→c.length<2^63:=fun x c k=>by
  rcases k with _ | _ | _ | _ | _ | _ | _ | _ | _ | ⟨_,_,ad,cap,bk,o,hc,hl2,_⟩
  omega
 exact h (ln _ _ (hr 0 _ rfl)) (ln _ _ (hr 1 _ rfl)) D w vs hD hg hl hr
end Go.Ab
