/- Several texts of one kind, merged. No condition. -/
import Derived.Shelf.Strings.IndexAnyAll
import Derived.Shelf.Small.Utf8
import Derived.Laws.RangeAny
import Derived.Laws.Runes
import Derived.WalkMore
import Derived.Shelf.RegionOpenPlain
import Derived.WalkKit
import Derived.Deep.Draws
import Derived.RegionTactic
import Derived.Deep.QuietTactic
import Derived.Test.YtgdllpgidgiccaaGreatDoorAbP4
import Derived.Test.YtgdllpgidgiccaaGreatDoorAbR3
set_option linter.unusedSimpArgs false
set_option linter.unusedVariables false
namespace Go.Ab
open Go.Proofs Go.Shelf Go.RowKit Go.Lib
variable {P:Program} {ρ:Ren}
theorem aGs:∀ (l:List UInt8) (c:UInt8),(∀ b,b∈l→b.toNat<128)→128≤c.toNat→indexByte l c=-1
 | [],_,_,_=>rfl
 | b::l,c,h,hc=>by
   have ih:=aGs l c (fun x hx=>h x (List.mem_cons_of_mem _ hx)) hc
   have hb:=h b (List.mem_cons_self ..)
   have hne:(b==c)=false:=by
    rw [beq_eq_false_iff_ne]; rintro rfl; omega
   rw [indexByte,hne,ih]; rfl
set_option maxHeartbeats 4000000 in
set_option maxRecDepth 1000000 in
theorem aO5 (L:Lays.n152 P ρ) (s:ByteArray) (w:World) (has:∀ (j:Nat) b,s.data.toList[j]?=some b→b.toNat<128) :
 Calls P (ρ.f 152) #[.string s,.int .i32 65533] w fun e w'=>e=.returned (.int .i64 (-1))∧∃ pos,w'=w.iter s pos:=by
 have HA:Aside (∀ (j:Nat) b,s.data.toList[j]?=some b→b.toNat<128):=has
 clear has
 have t3:=L.t3; have a3:=L.a3; have z3:=L.z3; have v3:=L.v3
 have t4:=L.t4; have a4:=L.a4; have z4:=L.z4; have v4:=L.v4
 have t5:=L.t5; have a5:=L.a5; have z5:=L.z5; have v5:=L.v5
 have t9:=L.t9; have a9:=L.a9; have z9:=L.z9; have v9:=L.v9
 have t21:=L.t21; have a21:=L.a21; have z21:=L.z21; have v21:=L.v21
 have e137:∀ args w,(callFunc (ρ.f 137) args).run P w=.ok (.enter (ρ.f 137) args) w:=enters_of L.f137 (by kernel_rfl) rfl
 go_enter L.f152,Body.n152_ntmps ρ
 go_wp2
 go_loopg [5,6] s.size (fun g _ _ wx=>∃ i:Nat,i+g=s.size∧wx=w.iter s i)
 case atStart=>exact ⟨0,by omega,rfl⟩
 case round =>
  obtain ⟨i,hig,rfl⟩:=hrel
  cases gk with
  | zero =>
    obtain rfl:i=s.size:=by omega
    have hnx:=run_next_end (P:=P) w s s.size
    go_wp2
    go_ret
    exact ⟨rfl,_,rfl⟩
  | succ g =>
    have hi:i<s.size:=by omega
    obtain ⟨x,hx⟩:∃ x:UInt8,s[i]'hi=x:=⟨_,rfl⟩
    have hxl:s.data.toList[i]?=some x:=by rw [← hx]; exact Lib.data_getElem? s i hi
    have hx128:x.toNat<128:=HA.out i x hxl
    have hnx:=fun ty=>run_next_ascii (P:=P) w s i ty hi (by rw [hx]; exact hx128)
    rw [hx] at hnx
    clear hxl hx
    have hne:((x.toNat:Int)==65533)=false:=beq_eq_false_iff_ne.2 (by omega)
    go_wp2
    go_roundg g
    case measure=>omega
    case rel=>exact ⟨i+1,by omega,rfl⟩
set_option maxHeartbeats 4000000 in
set_option maxRecDepth 1000000 in
theorem aOj (L:Lays.n152 P ρ) (s:ByteArray) (r:Int) (w:World) (h1:128≤r) (h2:r≠65533) (h3:Lib.validRune r=false) :
 Calls P (ρ.f 152) #[.string s,.int .i32 r] w fun e w'=>e=.returned (.int .i64 (-1))∧w'=w:=by
 have hne:(r==65533)=false:=beq_eq_false_iff_ne.2 h2
 have h128:¬ (r<128):=by omega
 have t3:=L.t3; have a3:=L.a3; have z3:=L.z3; have v3:=L.v3
 have t4:=L.t4; have a4:=L.a4; have z4:=L.z4; have v4:=L.v4
 have t5:=L.t5; have a5:=L.a5; have z5:=L.z5; have v5:=L.v5
 have t9:=L.t9; have a9:=L.a9; have z9:=L.z9; have v9:=L.v9
 have t21:=L.t21; have a21:=L.a21; have z21:=L.z21; have v21:=L.v21
 have e119:∀ args w,(callFunc (ρ.f 119) args).run P w=.ok (.enter (ρ.f 119) args) w:=enters_of L.f119 (by kernel_rfl) rfl
 go_enter L.f152,Body.n152_ntmps ρ
 go_wp2_with (go_at_fn (ρ.f 119); refine (Any.utf8_ValidRune { L with } _ _).mono ?_; rintro e w' ⟨rfl,hw⟩; rw [hw,h3])
 go_ret
 exact ⟨rfl,rfl⟩
set_option maxHeartbeats 8000000 in
set_option maxRecDepth 1000000 in
theorem aPo (L:Lays.n152 P ρ) (s:ByteArray) (r:Int) (w:World) (h1:128≤r) (h2:r≠65533) (h3:Lib.validRune r=true) (hs:s.size<4294967281) (has:∀ b∈s.data.toList,b.toNat<128) :
 Calls P (ρ.f 152) #[.string s,.int .i32 r] w fun e w'=>e=.returned (.int .i64 (-1))∧∃ n,w'=w.drewN n:=by
 have hne:(r==65533)=false:=beq_eq_false_iff_ne.2 h2
 have h128:¬ (r<128):=by omega
 have hv:Utf8.valid r=true:=by
  rw [Lib.validRune,decide_eq_true_iff] at h3
  simp only [Utf8.valid,Bool.or_eq_true,Bool.and_eq_true,decide_eq_true_eq]
  omega
 obtain ⟨q1,q2,q3⟩:=encode_facts r hv h1
 obtain ⟨rs,hrs⟩:∃ rs,Utf8.encode r=rs:=⟨_,rfl⟩
 rw [hrs] at q1 q2 q3
 obtain ⟨k,hk⟩:∃ k,rs.size=k+1:=⟨rs.size-1,by omega⟩
 have hkr:k<rs.size:=by omega
 obtain ⟨c,hc⟩:∃ c:UInt8,rs[k]'hkr=c:=⟨_,rfl⟩
 have q4:128≤c.toNat:=by
  have q4:=q3 (by omega)
  have e:rs.size-1=k:=by omega
  rw [← hc]
  simpa only [e] using q4
 have hk':(rs.size:Int)-1=(k:Int):=by omega
 have hcv:=run_convert_int_string (P:=P) w (ρ.t 21) (ρ.t 9) .i32 r (by rw [L.t21]; rfl) L.t9
 rw [hrs] at hcv
 have HA:Aside (∀ b∈s.data.toList,b.toNat<128):=has
 clear has q3 hrs
 have t3:=L.t3; have a3:=L.a3; have z3:=L.z3; have v3:=L.v3
 have t4:=L.t4; have a4:=L.a4; have z4:=L.z4; have v4:=L.v4
 have t5:=L.t5; have a5:=L.a5; have z5:=L.z5; have v5:=L.v5
 have t9:=L.t9; have a9:=L.a9; have z9:=L.z9; have v9:=L.v9
 have t21:=L.t21; have a21:=L.a21; have z21:=L.z21; have v21:=L.v21
 have mixed:=L.mixed
 have e119:∀ args w,(callFunc (ρ.f 119) args).run P w=.ok (.enter (ρ.f 119) args) w:=enters_of L.f119 (by kernel_rfl) rfl
 have e137:∀ args w,(callFunc (ρ.f 137) args).run P w=.ok (.enter (ρ.f 137) args) w:=enters_of L.f137 (by kernel_rfl) rfl
 go_enter L.f152,Body.n152_ntmps ρ
 go_wp2_with (go_at_fn (ρ.f 119); refine (Any.utf8_ValidRune { L with } _ _).mono ?_; rintro e w' ⟨rfl,hw⟩; rw [hw,h3])
 go_step3
 go_wp2
 go_loopg [9,10,11,12] 1 (fun g s9 _ _ _ wx=>s9=.int .i64 k∧wx=w)
 case atStart=>exact ⟨by first | rfl | simp [hk'],rfl⟩
 case round =>
  obtain ⟨rfl,rfl⟩:=hrel
  by_cases hlt:((k:Int)<(s.size:Int))
  ·have hks:k<s.size:=by omega
   obtain ⟨x,hx⟩:∃ x:UInt8,s[k]'hks=x:=⟨_,rfl⟩
   have hxa:x.toNat<128:=HA.out x (by rw [← hx]; exact Array.getElem_mem_toList (xs:=s.data) hks)
   have hxc:((x.toNat:Int)==(c.toNat:Int))=false:=beq_eq_false_iff_ne.2 (by omega)
   have b0:(0:Int)≤(k:Int):=by omega
   have b6:(k:Int)<(k:Int)+1:=by omega
   have b1:(k:Int)<(rs.size:Int):=by omega
   have b2:(k:Int)+1≤(s.size:Int):=by omega
   have b3:(0:Int)≤(k:Int)+1:=by omega
   have b4:IntKind.i64.wrap ((k:Int)+1)=(k:Int)+1:=wrap_small _ (by omega) (by omega)
   have b5:((k:Int)+1).toNat=k+1:=by omega
   have hix:Lib.indexByte (List.take (s.size-(k+1)) (List.drop (k+1) s.data.toList)) c=-1:=aGs _ _ (fun b hb=>HA.out b (List.mem_of_mem_drop (List.mem_of_mem_take hb))) q4
   have HX:Aside (Lib.indexByte (List.take (s.size-(k+1)) (List.drop (k+1) s.data.toList)) c=-1):=hix
   clear hix
   go_wp2
   go_step3
   go_wp2
   go_region_o
   go_wp2
   go_quiet_o ((go_at_fn (ρ.f 137); exact (Any.strings_IndexByte { L with } _ _ _).mono (fun e w' h=>⟨h.1,_,h.2⟩)))
   rw [HX.out]
   go_wp2
   rw [Exit.noGoto_ret]
   go_wp2
   try rw [Exit.noGoto_ret]
   go_ret
   exact ⟨rfl,_,rfl⟩
  ·go_wp2
   go_ret
   exact ⟨rfl,0,rfl⟩
theorem aMd (L:Lays.n152 P ρ) (s:ByteArray) (r:Int) (w:World) (h1:128≤r) (hs:s.size<4294967281) (has:∀ b∈s.data.toList,b.toNat<128) :
 Calls P (ρ.f 152) #[.string s,.int .i32 r] w fun e w'=>e=.returned (.int .i64 (-1))∧Below w.heap.size w w':=by
 by_cases h2:r=65533
 ·subst h2
  refine (aO5 L s w fun j b h=>has b (List.mem_of_getElem? h)).mono ?_
  rintro e w' ⟨rfl,pos,rfl⟩
  exact ⟨rfl,(Below.refl _ _).alloc (Nat.le_refl _) _⟩
 ·cases h3:Lib.validRune r with
  | true =>
    refine (aPo L s r w h1 h2 h3 hs has).mono ?_
    rintro e w' ⟨rfl,n,rfl⟩
    exact ⟨rfl,⟨rfl,rfl,rfl,Nat.le_refl _,fun _ _=>rfl⟩⟩
  | false =>
    refine (aOj L s r w h1 h2 h3).mono ?_
    rintro e w' ⟨rfl,rfl⟩
    exact ⟨rfl,Below.refl _ _⟩
def aEj (w:World) (p:Nat) (s:ByteArray) (pos:Nat):World:={ w with heap:=w.heap.setIfInBounds p (.stringIter s pos) }
theorem aNf (w:World) (p:Nat) (s:ByteArray) (pos:Nat) (h:p<w.heap.size):(aEj w p s pos).heap[p]?=some (.stringIter s pos):=by
 simp [aEj,h]
theorem aIa {B:Nat} {a w:World} {p:Nat} (h:Below B a w) (hp:B≤p) (s:ByteArray) (pos:Nat):Below B a (aEj w p s pos) :=
 h.trans ⟨rfl,rfl,rfl,by simp [aEj],fun k hk=>by
  show (w.heap.setIfInBounds p _)[k]?=_
  rw [Array.getElem?_setIfInBounds_ne (by omega)]⟩
theorem aSb {w:World} {p:Nat} {s:ByteArray} {pos:Nat} (hp:w.heap[p]?=some (.stringIter s pos)) (ty:TypeId) (h:pos<s.size) :
 (Instr.next (.pointer (some ⟨p,0,none⟩)) true ty).run P w =
  .ok (.tuple #[.bool true,.int .i64 pos,.int .i32 (Utf8.decode s pos).1]) (aEj w p s (pos+(Utf8.decode s pos).2)):=by
 simp only [Instr.next,getObj,setObj,Sem.run_bind,Sem.run,hp,Result.andThen,h,if_true,aEj]
 simp [goInt]
theorem aNz {w:World} {p:Nat} {s:ByteArray} {pos:Nat} (hp:w.heap[p]?=some (.stringIter s pos)) (ty:TypeId) (h:¬ pos<s.size) :
 (Instr.next (.pointer (some ⟨p,0,none⟩)) true ty).run P w=.ok (.tuple #[.bool false]) w:=by
 simp [Instr.next,getObj,Sem.run,hp,h]
theorem bGx (s:ByteArray) (k:Nat) (h:k<s.size):s.get! k=s[k]'h:=by
 simp [ByteArray.get!,getElem!_pos,h]
 rfl
theorem aPe (s:ByteArray) (pos:Nat) (h:pos<s.size) (ha:128≤(s[pos]'h).toNat) :
 pos+(Utf8.decode s pos).2≤s.size∧∀ (j:Nat) b,pos≤j→j<pos+(Utf8.decode s pos).2→s.data.toList[j]?=some b→128≤b.toNat:=by
 have hn:¬ (s[pos]'h).toNat<128:=by omega
 have h0:s.get! (pos+0)=s[pos]'h:=get_at s pos h
 have key:∀ k,(decide (pos+k<s.size)&&(s.get! (pos+k)).toNat / 64==2)=true→pos+k<s.size∧∀ b,s.data.toList[pos+k]?=some b→128≤b.toNat:=by
  intro k hk
  simp only [Bool.and_eq_true,decide_eq_true_eq,beq_iff_eq] at hk
  refine ⟨hk.1,fun b hb=>?_⟩
  have e:=Lib.data_getElem? s (pos+k) hk.1
  rw [e] at hb
  have e2:=bGx s (pos+k) hk.1
  cases hb
  rw [← e2]
  omega
 have b0:∀ b,s.data.toList[pos]?=some b→128≤b.toNat:=by
  intro b hb
  rw [Lib.data_getElem? s pos h] at hb
  cases hb
  exact ha
 have fin:∀ n,n≤4→(∀ k,1≤k→k<n→(decide (pos+k<s.size)&&(s.get! (pos+k)).toNat / 64==2)=true)→1≤n→pos+n≤s.size∧∀ (j:Nat) b,pos≤j→j<pos+n→s.data.toList[j]?=some b→128≤b.toNat:=by
  intro n hn4 hk h1
  refine ⟨?_,fun j b hj hj2 hb=>?_⟩
  ·by_cases h1':n=1
   ·omega
   ·have:=(key (n-1) (hk (n-1) (by omega) (by omega))).1
    omega
  ·by_cases hjp:j=pos
   ·subst hjp; exact b0 b hb
   ·have:=(key (j-pos) (hk (j-pos) (by omega) (by omega))).2 b
    rw [show pos+(j-pos)=j by omega] at this
    exact this hb
 have one:=fin 1 (by omega) (fun k h1 h2=>by omega) (by omega)
 simp only [Utf8.decode,h0,hn,if_false]
 split
 ·rename_i hc
  simp only [Bool.and_eq_true] at hc
  split
  ·exact fin 2 (by omega) (fun k h1 h2=>by rw [show k=1 by omega,Bool.and_eq_true]; exact hc.2) (by omega)
  ·exact one
 ·split
  ·rename_i hc
   simp only [Bool.and_eq_true] at hc
   split
   ·exact fin 3 (by omega) (fun k h1 h2=>by
     have:k=1∨k=2:=by omega
     rcases this with rfl | rfl
     ·rw [Bool.and_eq_true]; exact hc.1.2
     ·rw [Bool.and_eq_true]; exact hc.2) (by omega)
   ·exact one
  ·split
   ·rename_i hc
    simp only [Bool.and_eq_true] at hc
    split
    ·exact fin 4 (by omega) (fun k h1 h2=>by
      have:k=1∨k=2∨k=3:=by omega
      rcases this with rfl | rfl | rfl
      ·rw [Bool.and_eq_true]; exact hc.1.1.2
      ·rw [Bool.and_eq_true]; exact hc.1.2
      ·rw [Bool.and_eq_true]; exact hc.2) (by omega)
    ·exact one
   ·exact one
set_option maxHeartbeats 8000000 in
set_option maxRecDepth 1000000 in
theorem aMe (L:Lays.n153 P ρ) (s chars:ByteArray) (w:World) (h2:2≤chars.size) (h8:s.size≤8) (hcs:chars.size<4294967281) (hac:∀ b∈chars.data.toList,b.toNat<128) :
 Calls P (ρ.f 153) #[.string s,.string chars] w fun e w'=>e=.returned (.int .i64 (Lib.indexAny s.data.toList chars.data.toList))∧Below w.heap.size w w':=by
 have HR:Aside (∀ (r:Int) (w:World),128≤r→Calls P (ρ.f 152) #[.string chars,.int .i32 r] w fun e w'=>e=.returned (.int .i64 (-1))∧Below w.heap.size w w'):=fun r w hr=>aMd { L with } chars r w hr hcs hac
 have HC:Aside (∀ b∈chars.data.toList,b.toNat<128):=hac
 clear hac
 have hemp:chars.toList.isEmpty=false:=by
  rw [Lib.toList_data]
  cases h:chars.data.toList with
  | nil=>have:=Lib.size_eq chars; rw [h,List.length_nil] at this; omega
  | cons _ _=>rfl
 have hn1:((chars.size:Int)==1)=false:=beq_eq_false_iff_ne.2 (by omega)
 have h8z:decide ((8:Int)<(s.size:Int))=false:=decide_eq_false (by omega)
 have t3:=L.t3; have a3:=L.a3; have z3:=L.z3; have v3:=L.v3
 have t4:=L.t4; have a4:=L.a4; have z4:=L.z4; have v4:=L.v4
 have t5:=L.t5; have a5:=L.a5; have z5:=L.z5; have v5:=L.v5
 have t9:=L.t9; have a9:=L.a9; have z9:=L.z9; have v9:=L.v9
 have t21:=L.t21; have a21:=L.a21; have z21:=L.z21; have v21:=L.v21
 have e152:∀ args w,(callFunc (ρ.f 152) args).run P w=.ok (.enter (ρ.f 152) args) w:=enters_of L.f152 (by kernel_rfl) rfl
 have e226:∀ args w,(callFunc (ρ.f 226) args).run P w=.ok (.enter (ρ.f 226) args) w:=enters_of L.f226 (by kernel_rfl) rfl
 go_enter L.f153,Body.n153_ntmps ρ
 go_wp2_with (go_at_fn (ρ.f 226); refine (Any.strings_shouldUseASCIISet { L with } _ _).mono ?_; rintro e w' ⟨rfl,hw⟩; rw [hw,h8z])
 go_loopg [9,10] s.size (fun g _ _ wx=>∃ i:Nat,i+g=s.size∧Hid (Below w.heap.size w wx∧w.heap.size<wx.heap.size∧wx.heap[w.heap.size]?=some (.stringIter s i))∧Lib.NoAny s.data.toList chars.data.toList i)
 case atStart=>exact ⟨0,by omega,⟨(Below.refl _ _).alloc (Nat.le_refl _) _,by simp [World.iter],World.iter_heap w s 0⟩,Lib.NoAny.zero _ _⟩
 case round =>
  obtain ⟨i,hig,HW,hno⟩:=hrel
  have HN:Aside (Lib.NoAny s.data.toList chars.data.toList i):=hno
  clear hno
  cases gk with
  | zero =>
    obtain rfl:i=s.size:=by omega
    have hnx:=fun ty=>aNz (P:=P) HW.out.2.2 ty (by omega)
    go_wp2
    go_ret
    exact ⟨by rw [Lib.indexAny_none (by rw [← Lib.size_eq]; exact HN.out)]; rfl,HW.out.1⟩
  | succ g =>
    have hi:i<s.size:=by omega
    have hnx:=fun ty=>aSb (P:=P) HW.out.2.2 ty hi
    obtain ⟨x,hx⟩:∃ x:UInt8,s[i]'hi=x:=⟨_,rfl⟩
    have hxl:s.data.toList[i]?=some x:=by rw [← hx]; exact Lib.data_getElem? s i hi
    by_cases hlow:x.toNat<128
    ·have hd:=decode_ascii s i hi (by rw [hx]; exact hlow)
     rw [hx] at hd
     rw [hd] at hnx
     have Hx:Aside (s.data.toList[i]?=some x):=hxl
     clear hxl hx hd
     have HW2:Hid (Below w.heap.size w (aEj wr w.heap.size s (i+1))∧w.heap.size<(aEj wr w.heap.size s (i+1)).heap.size∧(aEj wr w.heap.size s (i+1)).heap[w.heap.size]?=some (.stringIter s (i+1))) :=
      ⟨aIa HW.out.1 (Nat.le_refl _) _ _,by simpa [aEj] using HW.out.2.1,aNf _ _ _ _ HW.out.2.1⟩
     have hcon:=Lib.contains_iff_indexByte chars.data.toList x
     have hback:((x.toNat:Int)).toNat.toUInt8=x:=by simp
     cases hin:chars.data.toList.contains x
     ·rw [hin] at hcon
      have hlt:¬ ((0:Int)≤Lib.indexByte chars.data.toList x):=of_decide_eq_false hcon.symm
      clear hcon
      go_wp2_with (go_at_fn (ρ.f 152); refine (Any.strings_IndexRune_ascii { L with } _ _ _ (by omega) (by omega)).mono ?_; rintro e w' ⟨rfl,hw⟩; rw [hw,hback])
      go_roundg g
      case measure=>omega
      case rel=>exact ⟨i+1,by omega,HW2,HN.out.succ Hx.out hin⟩
     ·rw [hin] at hcon
      have hge:(0:Int)≤Lib.indexByte chars.data.toList x:=of_decide_eq_true hcon.symm
      clear hcon
      go_wp2_with (go_at_fn (ρ.f 152); refine (Any.strings_IndexRune_ascii { L with } _ _ _ (by omega) (by omega)).mono ?_; rintro e w' ⟨rfl,hw⟩; rw [hw,hback])
      go_ret
      exact ⟨by rw [Lib.indexAny_hit HN.out Hx.out hin]; rfl,HW2.out.1⟩
    ·have hd:=decode_high s i hi (by rw [hx]; omega)
     have hb:=aPe s i hi (by rw [hx]; omega)
     generalize (Utf8.decode s i)=rk at hnx hd hb
     obtain ⟨r,k⟩:=rk
     simp only at hnx hd hb
     obtain ⟨hd1,hd2⟩:=hd
     obtain ⟨hb1,hb2⟩:=hb
     have hno:Lib.NoAny s.data.toList chars.data.toList (i+k):=by
      intro j b hj hjb
      by_cases hji:j<i
      ·exact HN.out j b hji hjb
      ·have h128:=hb2 j b (by omega) hj hjb
       cases hc:chars.data.toList.contains b with
       | false=>rfl
       | true=>have:=HC.out b (List.contains_iff_mem.1 hc); omega
     have HN2:Aside (Lib.NoAny s.data.toList chars.data.toList (i+k)):=hno
     clear hno hb2 hxl hx
     have hr:(128:Int)≤(r:Int):=by omega
     have hm1:¬ ((0:Int)≤-1):=by omega
     go_wp2_with (go_at_fn (ρ.f 152); refine (HR.out _ _ hr).mono ?_; rintro e w' ⟨rfl,hw⟩)
     go_roundg (g+1-k)
     case measure=>omega
     case rel =>
      have q1:=aNf wr w.heap.size s (i+k) HW.out.2.1
      have q2:w.heap.size<(aEj wr w.heap.size s (i+k)).heap.size:=by simpa [aEj] using HW.out.2.1
      have q3:=aIa HW.out.1 (Nat.le_refl _) s (i+k)
      exact ⟨i+k,by omega,⟨q3.trans (hw.mono (Nat.le_of_lt q2)),Nat.lt_of_lt_of_le q2 hw.size,(hw.block _ q2).trans q1⟩,HN2.out⟩
theorem aPt (L:Lays.n153 P ρ) (hv116:∀ w,(zeroValue (ρ.t 116)).run P w=.ok (.agg (Array.replicate 256 (.bool false))) w) (hi116:(P.info? (ρ.t 116)).map (·.size)=some 256) (s chars:ByteArray) (w:World) (h2:2≤chars.size) (hs:s.size<4294967281) (hcs:chars.size<4294967281)
 (hac:∀ b∈chars.data.toList,b.toNat<128) :
 Calls P (ρ.f 153) #[.string s,.string chars] w fun e w'=>e=.returned (.int .i64 (Lib.indexAny s.data.toList chars.data.toList))∧Below w.heap.size w w':=by
 by_cases h8:s.size≤8
 ·exact aMe L s chars w h2 h8 hcs hac
 ·refine (Any.strings_IndexAny_long L hv116 hi116 s chars w h2 (by omega) hs hcs fun j b h=>hac b (List.mem_of_getElem? h)).mono fun e w' ⟨h1,h2⟩=>⟨h1,?_⟩
  rw [h2]
  exact ((Below.refl _ _).alloc (Nat.le_refl _) _).alloc (by simp) _
set_option maxHeartbeats 1000000 in
theorem aLv (L:Lays.n150 P ρ) (h116:(P.info? (ρ.t 116)).map (fun i=>(i.zero,i.size))=some (some (.agg (Array.replicate 256 (.bool false))),256)) (s chars:ByteArray) (w:World) (h2:2≤chars.size) (hs:s.size<4294967281) (hcs:chars.size<4294967281)
 (hac:∀ b∈chars.data.toList,b.toNat<128) :
 Calls P (ρ.f 150) #[.string s,.string chars] w fun e w'=>e=.returned (.bool (Lib.containsAny s.data.toList chars.data.toList))∧Below w.heap.size w w':=by
 have c:=aPt { L with } (zero_of_info h116).1 (zero_of_info h116).2 s chars w h2 hs hcs hac
 have t3:=L.t3; have a3:=L.a3; have z3:=L.z3; have v3:=L.v3
 have t4:=L.t4; have a4:=L.a4; have z4:=L.z4; have v4:=L.v4
 have t9:=L.t9; have a9:=L.a9; have z9:=L.z9; have v9:=L.v9
 have e153:∀ args w,(callFunc (ρ.f 153) args).run P w=.ok (.enter (ρ.f 153) args) w:=enters_of L.f153 (by kernel_rfl) rfl
 go_enter L.f150,Body.n150_ntmps ρ
 go_wp2_with (go_at_fn (ρ.f 153); refine c.mono ?_; rintro e w' ⟨rfl,hw⟩)
 go_ret
 exact ⟨rfl,hw⟩
end Go.Ab
namespace Go.Ab
def Tn (l:List Node):Prop:=∀ n,n∈l→∃ q,n=tx q
theorem Tn.nil:Tn []:=fun n h=>by simp at h
theorem Tn.app {a b:List Node} (ha:Tn a) (hb:Tn b):Tn (a++b):=fun n h=>by
 rw [List.mem_append] at h
 exact h.elim (ha n) (hb n)
theorem Tn.one (q:List UInt8):Tn [tx q]:=fun n h=>⟨q,by simpa using h⟩
theorem Tn.push {l:List Node} (h:Tn l) (s:List UInt8):Tn (aCh l s):=by
 rcases List.eq_nil_or_concat l with rfl | ⟨d,n,rfl⟩
 ·exact Tn.one s
 ·rw [List.concat_eq_append] at h ⊢
  obtain ⟨q,rfl⟩:=h n (by simp)
  rw [aO1]
  exact Tn.app (fun m hm=>h m (by simp [hm])) (Tn.one _)
theorem Tn.add {l:List Node} (h:Tn l) (q:List UInt8):Tn (addN (tx q) l):=by
 have e:addN (tx q) l=if (tx q).text=[] then l else aCh l (tx q).text:=if_pos rfl
 rw [e]
 by_cases hq:(tx q).text=[]
 ·rw [if_pos hq]; exact h
 ·rw [if_neg hq]; exact h.push q
def El.tn (e:El):Prop:=Tn e.list∧∀ a,a∈e.args→Tn a.nm∧Tn a.val
theorem aJn {p:Arg→Prop} {f:Arg→Arg} (hf:∀ a,p a→p (f a)):∀ {l:List Arg},(∀ a,a∈l→p a)→∀ a,a∈aFe f l→p a
 | [],h=>h
 | [x],h=>fun a ha=>by
   simp only [aFe,List.mem_singleton] at ha
   subst ha
   exact hf x (h x (by simp))
 | x::y::r,h=>fun a ha=>by
   simp only [aFe,List.mem_cons] at ha
   rcases ha with rfl | ha
   ·exact h a (by simp)
   ·exact aJn (l:=y::r) hf (fun b hb=>h b (List.mem_cons_of_mem _ hb)) a ha
theorem El.tn_add {e:El} (h:e.tn) (q:List UInt8):(e.add (tx q)).tn:=by
 simp only [El.add]
 split
 ·refine ⟨h.1,aJn (p:=fun a=>Tn a.nm∧Tn a.val) (fun a ha=>?_) h.2⟩
  obtain ⟨b,n,v⟩:=a
  exact ⟨ha.1,ha.2.add q⟩
 ·exact ⟨h.1.add q,h.2⟩
def Tq (st:List El):Prop:=∀ e,e∈st→e.tn
theorem Tq.tail {e:El} {r:List El} (h:Tq (e::r)):Tq r:=fun x hx=>h x (by simp [hx])
theorem Tq.cons {e:El} {r:List El} (he:e.tn) (h:Tq r):Tq (e::r):=fun x hx=>by
 rcases List.mem_cons.1 hx with rfl | hx
 ·exact he
 ·exact h x hx
theorem Tq.add {st:List El} (h:Tq st) (q:List UInt8):Tq (addS (tx q) st):=by
 cases st with
 | nil=>exact h
 | cons e r=>exact Tq.cons (El.tn_add (h e (by simp)) q) h.tail
theorem Tq.adds:∀ {l:List Node} {st:List El},Tq st→Tn l→Tq (aBr l st)
 | [],st,h,_=>h
 | n::l,st,h,hl=>by
   obtain ⟨q,rfl⟩:=hl n (by simp)
   show Tq (aBr l (addS (tx q) st))
   exact Tq.adds (h.add q) (fun m hm=>hl m (by simp [hm]))
theorem El.tn_pieces {e:El} (h:e.tn):Tn e.pieces:=by
 simp only [El.pieces]
 refine Tn.app (a:=[_]) (Tn.one _) (Tn.app h.1 fun n hn=>?_)
 obtain ⟨a,ha,hn⟩:=List.mem_flatMap.1 hn
 obtain ⟨b,nm,v⟩:=a
 have:=h.2 _ ha
 refine Tn.app (a:=[_]) (Tn.one [124]) (Tn.app ?_ this.2) n hn
 split
 ·exact Tn.app this.1 (Tn.one _)
 ·exact Tn.nil
theorem Tq.flat1 {st:List El} (h:Tq st):Tq (flat1 st):=by
 cases st with
 | nil=>exact h
 | cons e r=>exact Tq.adds h.tail (El.tn_pieces (h e (by simp)))
theorem Tq.flatN:∀ (n:Nat) {st:List El},Tq st→Tq (flatN n st)
 | 0,_,h=>h
 | n+1,_,h=>Tq.flatN n h.flat1
theorem Tq.open_ {st:List El} (h:Tq st) {e:El} (s:List UInt8) (h1:e.list=[]) (h2:e.args=[]):Tq (aEh e s st):=by
 simp only [aEh]
 split
 ·exact h.add s
 ·exact Tq.cons ⟨by rw [h1]; exact Tn.nil,by rw [h2]; intro a ha; simp at ha⟩ h
theorem Tq.bar {st:List El} (h:Tq st):Tq (barF st):=by
 cases st with
 | nil=>exact h
 | cons e r =>
   simp only [barF]
   split
   ·refine Tq.cons ⟨(h e (by simp)).1,fun a ha=>?_⟩ h.tail
    simp only [List.mem_append,List.mem_singleton] at ha
    rcases ha with ha | rfl
    ·exact (h e (by simp)).2 a ha
    ·exact ⟨Tn.nil,Tn.nil⟩
   ·exact h.add _
theorem Tq.eq {st:List El} (h:Tq st):Tq (eqF st):=by
 cases st with
 | nil=>exact h
 | cons e r =>
   simp only [eqF]
   split
   ·refine Tq.cons ⟨(h e (by simp)).1,aJn (p:=fun a=>Tn a.nm∧Tn a.val) (fun a ha=>?_) (h e (by simp)).2⟩ h.tail
    exact ⟨ha.2,Tn.nil⟩
   ·exact h.add _
def Tok.open_ (t:Tok):Prop:=t.kind≠4∧t.kind≠6∧t.kind≠9∧t.kind≠10∧t.kind≠12
theorem Tq.take {s:List UInt8} {t:Tok} {st:List El} (ht:t.open_) (h:Tq st):Tq (aA9 s t st):=by
 obtain ⟨h4,h6,h9,h10,h12⟩:=ht
 simp only [aA9,h4,h6,h9,h10,h12,if_false]
 split
 ·exact h.open_ _ rfl rfl
 ·split
  ·exact h.open_ _ rfl rfl
  ·split
   ·exact h.open_ _ rfl rfl
   ·split
    ·exact h.bar
    ·split
     ·exact h.eq
     ·exact h.add _
theorem Tq.run {s:List UInt8}:∀ {l:List Tok} {st:List El},(∀ t,t∈l→t.open_)→Tq st→Tq (runF s l st)
 | [],_,_,h=>h
 | t::l,st,hl,h=>Tq.run (l:=l) (st:=aA9 s t st) (fun x hx=>hl x (by simp [hx])) (Tq.take (hl t (by simp)) h)
theorem aWd {s:List UInt8} (h:∀ b,b∈s→b≠125∧b≠93∧b≠60):(aAp s).1=0∨(aAp s).1=2∨(aAp s).1=3∨(aAp s).1=5∨(aAp s).1=7∨(aAp s).1=8:=by
 cases s with
 | nil=>exact .inl rfl
 | cons c r =>
   obtain ⟨h1,h2,h3⟩:=h c (by simp)
   simp only [aAp,h1,h2,h3,if_false]
   split
   ·split <;> simp
   ·split
    ·split <;> simp
    ·split
     ·simp
     ·split
      ·simp
      ·split <;> simp
theorem aKs {s:List UInt8} (h:∀ b,b∈s→b≠125∧b≠93∧b≠60):∀ (n t i:Nat) (x:Tok),x∈aGj s n t i→x.open_
 | 0,t,i,x,hx=>by simp [aGj] at hx
 | n+1,t,i,x,hx=>by
   have hd:=aWd (s:=s.drop i) fun b hb=>h b (List.mem_of_mem_drop hb)
   simp only [aGj] at hx
   split at hx
   ·split at hx
    ·exact aKs h n t (i+1) x hx
    ·rename_i h0
     rw [List.mem_append,List.mem_cons] at hx
     rcases hx with hx | rfl | hx
     ·split at hx
      ·rw [List.mem_singleton] at hx; subst hx; simp [Tok.open_]
      ·simp at hx
     ·simp only [Tok.open_]
      rcases hd with hd | hd | hd | hd | hd | hd
      ·exact absurd hd h0
      all_goals (rw [hd]; simp)
     ·exact aKs h n _ _ x hx
   ·split at hx
    ·rw [List.mem_singleton] at hx; subst hx; simp [Tok.open_]
    ·simp at hx
theorem bFg {l:List Node} (h:Tn l) (hj:aC9 [] l=l):l=if srcs l=[] then [] else [tx (srcs l)]:=by
 match l,h with
 | [],_=>rfl
 | [n],h =>
   obtain ⟨q,rfl⟩:=h n (by simp)
   by_cases hq:q=[]
   ·subst hq
    simp [aC9,tx,Node.jstep] at hj
   ·have e:srcs [tx q]=q:=by simp [srcs,aKw]
    rw [e,if_neg hq]
 | n::m::r,h =>
   exfalso
   obtain ⟨q,rfl⟩:=h n (by simp)
   obtain ⟨q2,rfl⟩:=h m (by simp)
   have hl:=congrArg List.length hj
   have h1:=aPq r ((tx q2).jstep ((tx q).jstep []))
   have e:aC9 [] (tx q::tx q2::r)=aC9 ((tx q2).jstep ((tx q).jstep [])) r:=rfl
   have h2:((tx q2).jstep ((tx q).jstep [])).length≤1:=by
    by_cases hq:q=[]
    ·subst hq
     have e0:(tx []).jstep []=[]:=by simp [tx,Node.jstep]
     rw [e0]
     exact aQw _ _
    ·rw [aIw _ hq]
     have e1:aCh [] q=[]++[tx q]:=rfl
     by_cases hq2:q2=[]
     ·subst hq2
      have e0:∀ o,(tx []).jstep o=o:=by intro o; simp [tx,Node.jstep]
      rw [e0,e1]; simp
     ·rw [aIw _ hq2,e1,aO1]; simp
   rw [e] at hl
   simp at hl
   omega
theorem aWz {s:List UInt8} (h:∀ b,b∈s→b≠125∧b≠93∧b≠60):aBk s=if s=[] then [] else [tx s]:=by
 have ht:Tn (aBk s):=by
  have h1:Tq (runF s (scan s) [root]):=Tq.run (fun t hx=>aKs h _ _ _ t hx) (Tq.cons ⟨Tn.nil,fun a ha=>by simp [root] at ha⟩ fun e he=>by simp at he)
  simp only [aBk,finF]
  have h2:=h1.flatN ((runF s (scan s) [root]).length-1)
  split
  ·rename_i e r he
   rw [he] at h2
   exact (h2 e (by simp)).1
  ·exact Tn.nil
 have:=bFg ht (aQc s)
 rwa [aEz] at this
end Go.Ab
namespace Go.Ab
variable {P:Program} {F T:Nat→Nat}
def AnyC (P:Program) (F:Nat→Nat):Prop:=∀ s chars:List UInt8,2≤chars.length→chars.length≤100→s.length≤100000→(∀ b,b∈chars→b.toNat<128)→PTr P (F 54) [.str s,.str chars] (.bool (Go.Lib.containsAny s chars))
theorem bG9 (h:∀ (s chars:ByteArray) (w:World),2≤chars.size→s.size<4294967281→chars.size<4294967281→(∀ b∈chars.data.toList,b.toNat<128) →
 Calls P (F 54) #[.string s,.string chars] w fun e w'=>e=.returned (.bool (Go.Lib.containsAny s.data.toList chars.data.toList))∧Go.RowKit.Below w.heap.size w w'):AnyC P F:=by
 intro s chars h2 hc hs ha D w vs hD hg hl hr
 obtain ⟨u,v,rfl,hu,hv⟩:=vs2 hl hr
 cases hu; cases hv
 refine (h ⟨s.toArray⟩ ⟨chars.toArray⟩ w (by simpa [ByteArray.size] using h2) (by simp [ByteArray.size]; omega) (by simp [ByteArray.size]; omega) (by simpa using ha)).mono ?_
 rintro e w' ⟨rfl,hb⟩
 exact ⟨_,rfl,hb,.bool _⟩
theorem aR3 {s chars:List UInt8} (h:Go.Lib.containsAny s chars=false):∀ b,b∈s→chars.contains b=false:=by
 intro b hb
 cases hc:chars.contains b with
 | false=>rfl
 | true =>
   exfalso
   have key:∀ l:List UInt8,b∈l→0≤Go.Lib.indexAny l chars:=by
    intro l
    induction l with
    | nil=>intro h; simp at h
    | cons x r ih =>
      intro hm
      have hge:=Go.Lib.indexAny_ge chars r
      unfold Go.Lib.indexAny
      split
      ·omega
      ·rename_i hx
       have hbr:b∈r:=by
        rcases List.mem_cons.1 hm with rfl | h
        ·exact absurd hc hx
        ·exact h
       have:=ih hbr
       split
       ·rename_i h1
        have:=beq_iff_eq.1 h1
        omega
       ·omega
   have:=key s hb
   rw [Go.Lib.containsAny,decide_eq_false_iff_not] at h
   exact h this
end Go.Ab
