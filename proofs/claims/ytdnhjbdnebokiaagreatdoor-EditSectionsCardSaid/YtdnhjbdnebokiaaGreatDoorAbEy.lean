/- The library's functions ar the evaluator sees them: out of the library's contracts. No condition. -/
import Derived.Test.YtdnhjbdnebokiaaGreatDoorAbY2
import Derived.Test.YtdnhjbdnebokiaaGreatDoorAbC1
import Derived.Test.YtdnhjbdnebokiaaGreatDoorAbM6
import Derived.Lib.Replace
import Derived.Lib.IndexAny
import Derived.Lib.FieldsP
set_option linter.unusedSimpArgs false
set_option linter.unusedVariables false
namespace Go.Ab
open Go.Lib
open Go.RowKit
variable {P:Program} {σ:Sy}
def BiOk (P:Program) (σ:Sy) (f:Nat) (g:List V→Option V):Prop:=∀ ar r,g ar=some r→PTr P f (ar.map (V.cz σ)) (r.cz σ)
def pbT:List (Nat×(List V→Option V))→Tr (List V→Option V)
 | []=>.leaf
 | x::r=>Tr.set 12 (pbT r) x.1 (some x.2)
def pbG (t:Tr (List V→Option V)):Pc:=fun f ar=>match t.get f with
 | some g=>g ar
 | none=>none
theorem aWr:∀ {l:List (Nat×(List V→Option V))} {f:Nat} {e:List V→Option V},(pbT l).get f=some e→(f,e)∈l
 | x::r,f,e,h=>by
   rw [pbT,Tr.get_set] at h
   split at h
   ·rename_i q
    cases h
    subst q
    exact List.mem_cons_self ..
   ·exact List.mem_cons_of_mem _ (aWr h)
theorem bJ2 {l:List (Nat×(List V→Option V))} (h:∀ x,x∈l→BiOk P σ x.1 x.2):aRi P σ (pbG (pbT l)):=by
 intro f ar r e
 unfold pbG at e
 split at e
 ·rename_i g q
  exact h _ (aWr q) _ _ e
 ·cases e
def biOr (a b:List V→Option V):List V→Option V:=fun l=>match a l with
 | some r=>some r
 | none=>b l
theorem bFr {f:Nat} {a b:List V→Option V} (ha:BiOk P σ f a) (hb:BiOk P σ f b):BiOk P σ f (biOr a b):=by
 intro ar r h
 unfold biOr at h
 split at h
 ·rename_i e; cases h; exact ha _ _ e
 ·exact hb _ _ h
def asc (l:List UInt8):Bool:=l.all fun b=>Nat.blt b.toNat 128
theorem aOb {l:List UInt8} (h:asc l=true) (j:Nat) (b:UInt8) (hb:l[j]?=some b):b.toNat<128:=by
 have:=List.all_eq_true.1 h b (List.mem_of_getElem? hb)
 simpa [Nat.blt_eq] using this
theorem aXw {f:Nat} {a b:List UInt8} {r:V} {X:Value} (h:∀ (D:Nat→Prop) (w:World),GIn P D w →
 Calls P f #[.string ⟨a.toArray⟩,.string ⟨b.toArray⟩] w fun e w'=>e=.returned X∧Below w.heap.size w w') (hr:∀ D w,Rep (fun _=>none) D w r X):PTr P f [.str a,.str b] r:=by
 intro D w vs hD hg hl hr'
 obtain ⟨u,v,rfl,hu,hv⟩:=vs2 hl hr'
 cases hu; cases hv
 refine (h D w hg).mono ?_
 rintro e w' ⟨rfl,hb⟩
 exact ⟨_,rfl,hb,hr _ _⟩
def biSS (ok:List UInt8→List UInt8→Bool) (g:List UInt8→List UInt8→V):List V→Option V
 | [.str a,.str b]=>if ok a b=true then some (g a b) else none
 | _=>none
theorem aJ9 {f:Nat} {ok:List UInt8→List UInt8→Bool} {g:List UInt8→List UInt8→V} (h:∀ a b,ok a b=true→PTr P f [.str a,.str b] (g a b)) (hp:∀ a b,(g a b).pl=true):BiOk P σ f (biSS ok g):=by
 intro ar r e
 unfold biSS at e
 split at e
 ·rename_i a b
  split at e
  ·rename_i q
   cases e
   rw [aL3 _ (hp a b)]
   exact h a b q
  ·cases e
 ·cases e
theorem bA9 {w w':World} (h:w'=w):Below w.heap.size w w':=h ▸ Below.refl _ _
theorem aRb {w w':World} (h:∃ n,w'=w.drewN n):Below w.heap.size w w':=by
 obtain ⟨n,rfl⟩:=h
 exact ⟨rfl,rfl,rfl,Nat.le_refl _,fun _ _=>rfl⟩
def okTr (g:List UInt8→List UInt8→List UInt8) (a b:List UInt8):Bool:=Nat.ble a.length 100000&&(Nat.ble b.length 100&&(asc b&&Nat.ble (g a b).length 100000))
theorem bH6 {f:Nat} {g:List UInt8→List UInt8→List UInt8} (h:∀ (s cs:ByteArray) (w:World),s.size≤9223372036854775807→cs.size<4294967281→(∀ (j:Nat) b,cs.data.toList[j]?=some b→b.toNat<128) →
 Calls P f #[.string s,.string cs] w fun e w'=>e=.returned (.string ⟨(g s.data.toList cs.data.toList).toArray⟩)∧Below w.heap.size w w'):BiOk P σ f (biSS (okTr g) fun a b=>.str (g a b)):=by
 refine aJ9 (fun a b q=>?_) fun _ _=>rfl
 simp only [okTr,Bool.and_eq_true,Nat.ble_eq] at q
 exact aXw (fun _ w _=>h ⟨a.toArray⟩ ⟨b.toArray⟩ w (by simp [ByteArray.size]; omega) (by simp [ByteArray.size]; omega) (aOb q.2.2.1)) fun D w=>.str _ (by omega)
def okS (a b:List UInt8):Bool:=Nat.ble a.length 100000&&Nat.ble b.length 100
theorem bJj {f x:Nat} (g:gint P x) (h:∀ (s sep:ByteArray) (m:Int) (w:World),s.size<4294967281→w.cell? ⟨x,0,none⟩=some (.int .i64 m) →
 Calls P f #[.string s,.string sep] w fun e w'=>e=.returned (.tuple #[.string ⟨(cut s.data.toList sep.data.toList).1.toArray⟩,.string ⟨(cut s.data.toList sep.data.toList).2.1.toArray⟩,.bool (cut s.data.toList sep.data.toList).2.2])∧∃ n,w'=w.drewN n) :
 BiOk P σ f (biSS okS fun a b=>.tup [.str (cut a b).1,.str (cut a b).2.1,.bool (cut a b).2.2]):=by
 refine aJ9 (fun a b q=>?_) fun _ _=>rfl
 simp only [okS,Bool.and_eq_true,Nat.ble_eq] at q
 have hl:(cut a b).1.length≤a.length∧(cut a b).2.1.length≤a.length:=by
  unfold cut
  split
  ·simp only [List.length_take,List.length_drop]; omega
  ·simp
 refine aXw (X:=.tuple #[.string ⟨(cut a b).1.toArray⟩,.string ⟨(cut a b).2.1.toArray⟩,.bool (cut a b).2.2]) (fun _ w hg=>?_) fun D w=>?_
 ·obtain ⟨m,hm⟩:=hg.1 x g
  refine (h ⟨a.toArray⟩ ⟨b.toArray⟩ m w (by simp [ByteArray.size]; omega) hm).mono ?_
  rintro e w' ⟨rfl,hn⟩
  exact ⟨rfl,aRb hn⟩
 ·refine .tup _ _ rfl fun i c hi=>?_
  match i,hi with
  | 0,hi=>simp at hi; subst hi; exact .str _ (by omega)
  | 1,hi=>simp at hi; subst hi; exact .str _ (by omega)
  | 2,hi=>simp at hi; subst hi; exact .bool _
theorem bGr {f:Nat} (h:∀ (s p:ByteArray) (w:World),s.size≤9223372036854775807→Calls P f #[.string s,.string p] w fun e w'=>e=.returned (.string ⟨(trimSuffix s.data.toList p.data.toList).toArray⟩)∧w'=w) :
 BiOk P σ f (biSS okS fun a b=>.str (trimSuffix a b)):=by
 refine aJ9 (fun a b q=>?_) fun _ _=>rfl
 simp only [okS,Bool.and_eq_true,Nat.ble_eq] at q
 refine aXw (X:=.string ⟨(trimSuffix a b).toArray⟩) (fun _ w hg=>(h ⟨a.toArray⟩ ⟨b.toArray⟩ w (by simp [ByteArray.size]; omega)).mono ?_) fun D w=>.str _ ?_
 ·rintro e w' ⟨rfl,hn⟩
  exact ⟨rfl,bA9 hn⟩
 ·unfold trimSuffix
  split
  ·rw [List.length_take]; omega
  ·omega
def okA (a b:List UInt8):Bool:=Nat.ble a.length 100000&&(Nat.ble b.length 100&&(asc a&&asc b))
theorem bGj {f:Nat} (h:∀ (s cs:ByteArray) (w:World),s.size<4294967281→cs.size<4294967281→(∀ (j:Nat) b,s.data.toList[j]?=some b→b.toNat<128)→(∀ (j:Nat) b,cs.data.toList[j]?=some b→b.toNat<128) →
 Calls P f #[.string s,.string cs] w fun e w'=>e=.returned (.int .i64 (indexAny s.data.toList cs.data.toList))∧Below w.heap.size w w'):BiOk P σ f (biSS okA fun a b=>.int .i64 (indexAny a b)):=by
 refine aJ9 (fun a b q=>?_) fun _ _=>rfl
 simp only [okA,Bool.and_eq_true,Nat.ble_eq] at q
 exact aXw (fun _ w _=>h ⟨a.toArray⟩ ⟨b.toArray⟩ w (by simp [ByteArray.size]; omega) (by simp [ByteArray.size]; omega) (aOb q.2.2.1) (aOb q.2.2.2)) fun D w=>.int _ _
theorem bHp {f:Nat} (h:∀ (s cs:ByteArray) (w:World),s.size<4294967281→cs.size<4294967281→(∀ (j:Nat) b,s.data.toList[j]?=some b→b.toNat<128)→(∀ (j:Nat) b,cs.data.toList[j]?=some b→b.toNat<128) →
 Calls P f #[.string s,.string cs] w fun e w'=>e=.returned (.bool (containsAny s.data.toList cs.data.toList))∧Below w.heap.size w w'):BiOk P σ f (biSS okA fun a b=>.bool (containsAny a b)):=by
 refine aJ9 (fun a b q=>?_) fun _ _=>rfl
 simp only [okA,Bool.and_eq_true,Nat.ble_eq] at q
 exact aXw (fun _ w _=>h ⟨a.toArray⟩ ⟨b.toArray⟩ w (by simp [ByteArray.size]; omega) (by simp [ByteArray.size]; omega) (aOb q.2.2.1) (aOb q.2.2.2)) fun D w=>.bool _
def biIB:List V→Option V
 | [.str a,.int .u8 c]=>some (.int .i64 (indexByte a c.toNat.toUInt8))
 | _=>none
theorem bMy {f:Nat} (h:∀ (s:ByteArray) (c:Int) (w:World),Calls P f #[.string s,.int .u8 c] w fun e w'=>e=.returned (.int .i64 (indexByte s.data.toList c.toNat.toUInt8))∧w'=w):BiOk P σ f biIB:=by
 intro ar r e
 unfold biIB at e
 split at e
 ·rename_i a c
  cases e
  intro D w vs hD hg hl hr
  obtain ⟨u,v,rfl,hu,hv⟩:=vs2 hl hr
  cases hu; cases hv
  refine (h ⟨a.toArray⟩ c w).mono ?_
  rintro e w' ⟨rfl,rfl⟩
  exact ⟨_,rfl,Below.refl _ _,.int _ _⟩
 ·cases e
def okR (a b:List UInt8):Bool:=Nat.ble a.length 100000&&(decide (b=[95])&&(!a.contains 95))
def biRep:List V→Option V
 | [.str a,.str b,.str c]=>if okR a b&&Nat.ble c.length 100 then some (.str a) else none
 | _=>none
theorem vs3 {G:Ghost} {D:Nat→Prop} {w:World} {x y z:V} {vs:Array Value} (hl:[x,y,z].length=vs.size) (hr:∀ i c,[x,y,z][i]?=some c→Rep G D w c (vs.getD i undef)):∃ u v t,vs=#[u,v,t]∧Rep G D w x u∧Rep G D w y v∧Rep G D w z t:=by
 match vs,hl with
 | ⟨[u,v,t]⟩,_=>exact ⟨u,v,t,rfl,hr 0 x rfl,hr 1 y rfl,hr 2 z rfl⟩
theorem bJ0 {f x:Nat} (g:gint P x) (h:∀ (s old new:ByteArray) (m:Int) (w:World),s.size<4294967281→w.cell? ⟨x,0,none⟩=some (.int .i64 m)→1≤old.size→s.size+countB s old*new.size≤140737488355328 →
 Calls P f #[.string s,.string old,.string new] w fun e w'=>e=.returned (.string ⟨(replaceAll s.data.toList old.data.toList new.data.toList).toArray⟩)∧Below w.heap.size w w'):BiOk P σ f biRep:=by
 intro ar r e
 unfold biRep at e
 split at e
 ·rename_i a b c
  split at e
  ·rename_i q
   cases e
   simp only [okR,Bool.and_eq_true,Nat.ble_eq,decide_eq_true_eq,Bool.not_eq_true'] at q
   obtain ⟨⟨q1,rfl,q3⟩,q4⟩:=q
   have hi:index a [95]=-1:=by
    rw [show index a [95]=indexByte a 95 from index_one a 95,aMz]
    have:a.findIdx? (·==95)=none:=by
     rw [List.findIdx?_eq_none_iff]
     intro b hb
     rw [Bool.eq_false_iff]
     intro e
     have:a.contains 95=true:=by rw [List.contains_iff_mem]; rwa [show b=95 by simpa using e] at hb
     rw [this] at q3; cases q3
    rw [this]
   have hc:count a [95]=0:=count_miss hi
   have hr:replaceAll a [95] c=a:=by
    unfold replaceAll replace
    split
    ·rfl
    ·rw [replaceNum,if_pos (.inl (by omega)),hc,replaceK]
   intro D w vs hD hg hl hr'
   obtain ⟨u,v,t,rfl,hu,hv,ht⟩:=vs3 hl hr'
   cases hu; cases hv; cases ht
   obtain ⟨m,hm⟩:=hg.1 x g
   refine (h ⟨a.toArray⟩ ⟨([95]:List UInt8).toArray⟩ ⟨c.toArray⟩ m w (by simp [ByteArray.size]; omega) hm (by simp [ByteArray.size]) ?_).mono ?_
   ·have:countB ⟨a.toArray⟩ ⟨([95]:List UInt8).toArray⟩=0:=hc
    rw [this,Nat.zero_mul]
    simp [ByteArray.size]; omega
   ·rintro e w' ⟨rfl,hb⟩
    refine ⟨_,rfl,hb,?_⟩
    show Rep _ _ _ (.str a) (.string ⟨(replaceAll a [95] c).toArray⟩)
    rw [hr]
    exact .str _ (by omega)
  ·cases e
 ·cases e
def biJoin:List V→Option V
 | [.lst 1 [.str a],.str b]=>if okS a b then some (.str a) else none
 | _=>none
theorem bG7 {f:Nat} (h:∀ (bk o c:Nat) (xs:List ByteArray) (sep:ByteArray) (w:World),(∀ (j:Nat) x,xs[j]?=some x→w.cell? ⟨bk,o+j,none⟩=some (.string x))→bk<w.heap.size→xs.length≤140737488355328→xs.length≤c→(join (xs.map (·.data.toList)) sep.data.toList).length≤140737488355328 →
 Calls P f #[.slice (some ⟨bk,o,none⟩) xs.length c,.string sep] w fun e w'=>e=.returned (.string ⟨(join (xs.map (·.data.toList)) sep.data.toList).toArray⟩)∧Below w.heap.size w w'):BiOk P σ f biJoin:=by
 intro ar r e
 unfold biJoin at e
 split at e
 ·rename_i a b
  split at e
  ·rename_i q
   cases e
   simp only [okS,Bool.and_eq_true,Nat.ble_eq] at q
   intro D w vs hD hg hl hr
   obtain ⟨u,v,rfl,hu,hv⟩:=vs2 hl hr
   cases hv
   rcases hu with _ | _ | _ | _ | _ | _ | _ | _ | _ | ⟨_,_,ad,cap,bk,o,hc,hl2,ha,hz,hs,hr2⟩
   obtain ⟨rfl,hbk,_⟩:=ha (by simp [V.czL])
   have hs1:=hs 0 0 (.str a) rfl
   have hr1:=hr2 0 0 (.str a) rfl
   have hcell:w.cell? ⟨bk,o,none⟩=some (.string ⟨a.toArray⟩):=by
    simp only [Nat.zero_mul,Nat.add_zero] at hs1 hr1
    unfold aC4 at hr1
    cases hq:w.cell? ⟨bk,o,none⟩ with
    | none=>rw [hq] at hs1; cases hs1
    | some y =>
      rw [hq] at hr1
      simp only [Option.getD_some] at hr1
      generalize y=z at hr1
      cases hr1
      rfl
   refine (h bk o cap [⟨a.toArray⟩] ⟨b.toArray⟩ w (fun j x hx=>?_) hbk (by simp) hc ?_).mono ?_
   ·match j,hx with
    | 0,hx=>simp at hx; subst hx; simpa using hcell
   ·simp [join_one]; omega
   ·rintro e w' ⟨rfl,hb⟩
    refine ⟨_,rfl,hb,?_⟩
    simp only [List.map_cons,List.map_nil,join_one]
    exact .str _ (by omega)
  ·cases e
 ·cases e
def aWk:List V→Option V
 | [.str a,.str b]=>if decide (b=[47])&&Nat.ble a.length 100000 then some (.lst 1 ((aCj a).map .str)) else none
 | _=>none
def aZa:List V→Option V
 | [.str a,.str b]=>if decide (b=[10])&&Nat.ble a.length 100000 then some (.lst 1 ((lnF a).map .str)) else none
 | _=>none
theorem aYs (l:List (List UInt8)):(V.lst 1 (l.map .str)).cz σ=.lst 1 (l.map .str):=by
 rw [aGb,List.map_map]
 rfl
theorem aOr {f x ty:Nat} (g:gint P x) (h1:∀ (s sep:ByteArray) (m:Int) (w:World),s.size<4294967281→w.cell? ⟨x,0,none⟩=some (.int .i64 m)→1≤sep.size →
 Calls P f #[.string s,.string sep] w fun e w'=>e=.returned (.slice (some ⟨w.heap.size,0,none⟩) (countB s sep+1) (countB s sep+1))∧w'=w.alloc (.cells ((splitB sep 0 (countB s sep) s).map Value.string).toArray ty))
 (c:UInt8) (s:List UInt8) (l0:List (List UInt8)) (hs:s.length≤100000) (hsp:split s [c]=l0) (hlen:∀ q,q∈l0→q.length<2^63):PTr P f [.str s,.str [c]] (.lst 1 (l0.map .str)):=by
 intro D w vs hD hg hl hr
 obtain ⟨u,v,rfl,hu,hv⟩:=vs2 hl hr
 cases hu; cases hv
 obtain ⟨m,hm⟩:=hg.1 x g
 refine (h1 ⟨s.toArray⟩ ⟨([c]:List UInt8).toArray⟩ m w (by simp [ByteArray.size]; omega) hm (by simp [ByteArray.size])).mono ?_
 rintro e w' ⟨rfl,rfl⟩
 have hd:=splitB_data ⟨([c]:List UInt8).toArray⟩ 0 (countB ⟨s.toArray⟩ ⟨([c]:List UInt8).toArray⟩) ⟨s.toArray⟩
 have hall:=splitB_all ⟨([c]:List UInt8).toArray⟩ (by simp [ByteArray.size]) 0 _ ⟨s.toArray⟩ rfl
 have hd2:(splitB ⟨([c]:List UInt8).toArray⟩ 0 (countB ⟨s.toArray⟩ ⟨([c]:List UInt8).toArray⟩) ⟨s.toArray⟩).map (·.data.toList)=l0:=by rw [hd]; exact hsp
 generalize splitB ⟨([c]:List UInt8).toArray⟩ 0 (countB ⟨s.toArray⟩ ⟨([c]:List UInt8).toArray⟩) ⟨s.toArray⟩=l at *
 have hl2:l.length=l0.length:=by rw [← hd2,List.length_map]
 have hmap:l.map Value.string=l0.map fun q=>Value.string ⟨q.toArray⟩:=by
  rw [← hd2,List.map_map]
  exact List.map_congr_left fun b _=>rfl
 rw [hmap]
 have hcn:=count_le s [c]
 have hcn2:countB ⟨s.toArray⟩ ⟨([c]:List UInt8).toArray⟩=count s [c]:=rfl
 exact ⟨_,rfl,aB1 w _,bGb hD l0 _ ty (by rw [← hl2,hall]) hlen (by rw [hcn2]; omega)⟩
theorem bJ9 {f x ty:Nat} (g:gint P x) (h1:∀ (s sep:ByteArray) (m:Int) (w:World),s.size<4294967281→w.cell? ⟨x,0,none⟩=some (.int .i64 m)→1≤sep.size →
 Calls P f #[.string s,.string sep] w fun e w'=>e=.returned (.slice (some ⟨w.heap.size,0,none⟩) (countB s sep+1) (countB s sep+1))∧w'=w.alloc (.cells ((splitB sep 0 (countB s sep) s).map Value.string).toArray ty)):BiOk P σ f (biOr aWk aZa):=by
 refine bFr (fun ar r e=>?_) fun ar r e=>?_
 ·unfold aWk at e
  split at e
  ·rename_i a b
   split at e
   ·rename_i q
    cases e
    simp only [Bool.and_eq_true,Nat.ble_eq,decide_eq_true_eq] at q
    obtain ⟨rfl,q⟩:=q
    rw [aYs]
    exact aOr g h1 47 a _ q (aRk a.length a (Nat.le_refl _)) fun p hp=>by have:=aYu p hp; omega
   ·cases e
  ·cases e
 ·unfold aZa at e
  split at e
  ·rename_i a b
   split at e
   ·rename_i q
    cases e
    simp only [Bool.and_eq_true,Nat.ble_eq,decide_eq_true_eq] at q
    obtain ⟨rfl,q⟩:=q
    rw [aYs]
    exact aOr g h1 10 a _ q (bB6 a.length a (Nat.le_refl _)) fun p hp=>by
     have h2:=bAt a
     have:=aSj hp
     omega
   ·cases e
  ·cases e
end Go.Ab
