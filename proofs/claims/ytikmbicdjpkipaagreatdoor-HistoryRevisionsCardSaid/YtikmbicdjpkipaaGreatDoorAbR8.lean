import Derived.Shelf.Strings.IndexAnyAll
import Derived.Shelf.Small.Utf8
import Derived.Laws.RangeAny
import Derived.Laws.Runes
import Derived.WalkMore
import Derived.Shelf.RegionOpenPlain
import Derived.WalkKit
import Derived.Deep.Draws
import Derived.RegionTactic
import Derived.Deep.QuietTactic
import Derived.Test.YtikmbicdjpkipaaGreatDoorAbP1
import Derived.Test.YtikmbicdjpkipaaGreatDoorAbK1
import Derived.Test.YtikmbicdjpkipaaGreatDoorAbK4
import Derived.KernelRfl
open Bool renaming and_eq_true->zc
open List renaming take->zA,drop->yK,mem_of_getElem?->y7
open Nat renaming le_refl->zz
open ByteArray renaming size->zC
set_option linter.unusedSimpArgs false
set_option linter.unusedVariables false
namespace Go.Ab
open Go.Proofs Go.Shelf Go.RowKit Go.Lib
variable {P:Program} {ρ:Ren}
theorem aF7:∀(l:List UInt8) (c:UInt8),(∀b,b∈l->b.toNat<128)->128<=c.toNat->indexByte l c=-1
 | [],_,_,_=>rfl
 | b::l,c,h,hc=>by
   have ih:=aF7 l c (λx hx=>h x (List.mem_cons_of_mem _ hx)) hc;have hb:=h b (List.mem_cons_self ..);have hne:(b==c)=false:=by rw[beq_eq_false_iff_ne];rintro rfl;omega
   rw[indexByte,hne,ih];rfl
set_option maxHeartbeats 4000000 in
set_option maxRecDepth 1000000 in
theorem aNi(L:Lays.n152 P ρ)(s:ByteArray)(w:World)(has:∀(j:Nat) b,s.data.toList[j]?=some b->b.toNat<128):
 Calls P (ρ.f 152) #[.string s,.int .i32 65533] w λe w'=>e=.returned (.int .i64 (-1))∧∃pos,w'=w.iter s pos:=by
 have HA:Aside (∀(j:Nat) b,s.data.toList[j]?=some b->b.toNat<128):=has;clear has;have t3:=L.t3;have a3:=L.a3;have z3:=L.z3;have v3:=L.v3;have t4:=L.t4;have a4:=L.a4;have z4:=L.z4;have v4:=L.v4;have t5:=L.t5;have a5:=L.a5;have z5:=L.z5;have v5:=L.v5;have t9:=L.t9;have a9:=L.a9;have z9:=L.z9;have v9:=L.v9;have t21:=L.t21;have a21:=L.a21;have z21:=L.z21;have v21:=L.v21;have e137:∀args w,(callFunc (ρ.f 137) args).run P w=.ok (.enter (ρ.f 137) args) w:=enters_of L.f137 (by kernel_rfl) rfl
 go_enter L.f152,Body.n152_ntmps ρ
 go_wp2
 go_loopg [5,6] s.size (λg _ _ wx=>∃i:Nat,i+g=s.size∧wx=w.iter s i)
 case atStart=>exact⟨0,by omega,rfl⟩
 case round =>
  obtain⟨i,hig,rfl⟩:=hrel;cases gk with
  | zero =>
    obtain rfl:i=s.size:=by omega
    have hnx:=run_next_end (P:=P) w s s.size
    go_wp2
    go_ret
    exact⟨rfl,_,rfl⟩
  | succ g =>
    have hi:i<s.size:=by omega
    obtain⟨x,hx⟩:∃x:UInt8,s[i]'hi=x:=⟨_,rfl⟩;have hxl:s.data.toList[i]?=some x:=by rw[<-hx];exact Lib.data_getElem? s i hi
    have hx128:x.toNat<128:=HA.out i x hxl;have hnx:=λty=>run_next_ascii (P:=P) w s i ty hi (by rw[hx];exact hx128);rw[hx]at hnx;clear hxl hx;have hne:((x.toNat:Int)==65533)=false:=beq_eq_false_iff_ne.2 (by omega)
    go_wp2
    go_roundg g
    case measure=>omega
    case rel=>exact⟨i+1,by omega,rfl⟩
set_option maxHeartbeats 4000000 in
set_option maxRecDepth 1000000 in
theorem aNf(L:Lays.n152 P ρ)(s:ByteArray)(r:Int)(w:World)(h1:128<=r)(h2:r≠65533)(h3:Lib.validRune r=false):
 Calls P (ρ.f 152) #[.string s,.int .i32 r] w λe w'=>e=.returned (.int .i64 (-1))∧w'=w:=by
 have hne:(r==65533)=false:=beq_eq_false_iff_ne.2 h2;have h128:¬(r<128):=by omega
 have t3:=L.t3;have a3:=L.a3;have z3:=L.z3;have v3:=L.v3;have t4:=L.t4;have a4:=L.a4;have z4:=L.z4;have v4:=L.v4;have t5:=L.t5;have a5:=L.a5;have z5:=L.z5;have v5:=L.v5;have t9:=L.t9;have a9:=L.a9;have z9:=L.z9;have v9:=L.v9;have t21:=L.t21;have a21:=L.a21;have z21:=L.z21;have v21:=L.v21;have e119:∀args w,(callFunc (ρ.f 119) args).run P w=.ok (.enter (ρ.f 119) args) w:=enters_of L.f119 (by kernel_rfl) rfl
 go_enter L.f152,Body.n152_ntmps ρ
 go_wp2_with (go_at_fn (ρ.f 119);refine(Any.utf8_ValidRune { L with } _ _).mono ?_;rintro e w' ⟨rfl,hw⟩;rw[hw,h3])
 go_ret
 exact⟨rfl,rfl⟩
set_option maxHeartbeats 8000000 in
set_option maxRecDepth 1000000 in
theorem aOu(L:Lays.n152 P ρ)(s:ByteArray)(r:Int)(w:World)(h1:128<=r)(h2:r≠65533)(h3:Lib.validRune r=true)(hs:s.size<4294967281)(has:∀b∈s.data.toList,b.toNat<128):
 Calls P (ρ.f 152) #[.string s,.int .i32 r] w λe w'=>e=.returned (.int .i64 (-1))∧∃n,w'=w.drewN n:=by
 have hne:(r==65533)=false:=beq_eq_false_iff_ne.2 h2;have h128:¬(r<128):=by omega
 have hv:Utf8.valid r=true:=by rw[Lib.validRune,decide_eq_true_iff]at h3;simp only[Utf8.valid,Bool.or_eq_true,zc,decide_eq_true_eq];omega
 obtain⟨q1,q2,q3⟩:=encode_facts r hv h1;obtain⟨rs,hrs⟩:∃rs,Utf8.encode r=rs:=⟨_,rfl⟩;rw[hrs]at q1 q2 q3;obtain⟨k,hk⟩:∃k,rs.size=k+1:=⟨rs.size-1,by omega⟩;have hkr:k<rs.size:=by omega
 obtain⟨c,hc⟩:∃c:UInt8,rs[k]'hkr=c:=⟨_,rfl⟩;have q4:128<=c.toNat:=by
  have q4:=q3 (by omega);have e:rs.size-1=k:=by omega
  rw[<-hc];simpa only[e]using q4
 have hk':(rs.size:Int)-1=(k:Int):=by omega
 have hcv:=run_convert_int_string (P:=P) w (ρ.t 21) (ρ.t 9) .i32 r (by rw[L.t21];rfl) L.t9;rw[hrs]at hcv;have HA:Aside (∀b∈s.data.toList,b.toNat<128):=has;clear has q3 hrs;have t3:=L.t3;have a3:=L.a3;have z3:=L.z3;have v3:=L.v3;have t4:=L.t4;have a4:=L.a4;have z4:=L.z4;have v4:=L.v4;have t5:=L.t5;have a5:=L.a5;have z5:=L.z5;have v5:=L.v5;have t9:=L.t9;have a9:=L.a9;have z9:=L.z9;have v9:=L.v9;have t21:=L.t21;have a21:=L.a21;have z21:=L.z21;have v21:=L.v21;have mixed:=L.mixed;have e119:∀args w,(callFunc (ρ.f 119) args).run P w=.ok (.enter (ρ.f 119) args) w:=enters_of L.f119 (by kernel_rfl) rfl;have e137:∀args w,(callFunc (ρ.f 137) args).run P w=.ok (.enter (ρ.f 137) args) w:=enters_of L.f137 (by kernel_rfl) rfl
 go_enter L.f152,Body.n152_ntmps ρ
 go_wp2_with (go_at_fn (ρ.f 119);refine(Any.utf8_ValidRune { L with } _ _).mono ?_;rintro e w' ⟨rfl,hw⟩;rw[hw,h3])
 go_step3
 go_wp2
 go_loopg [9,10,11,12] 1 (λg s9 _ _ _ wx=>s9=.int .i64 k∧wx=w)
 case atStart=>exact⟨by first|rfl|simp[hk'],rfl⟩
 case round =>
  obtain⟨rfl,rfl⟩:=hrel;by_cases hlt:((k:Int)<(s.size:Int))
  .have hks:k<s.size:=by omega
   obtain⟨x,hx⟩:∃x:UInt8,s[k]'hks=x:=⟨_,rfl⟩;have hxa:x.toNat<128:=HA.out x (by rw[<-hx];exact Array.getElem_mem_toList (xs:=s.data) hks);have hxc:((x.toNat:Int)==(c.toNat:Int))=false:=beq_eq_false_iff_ne.2 (by omega);have b0:(0:Int)<=(k:Int):=by omega
   have b6:(k:Int)<(k:Int)+1:=by omega
   have b1:(k:Int)<(rs.size:Int):=by omega
   have b2:(k:Int)+1<=(s.size:Int):=by omega
   have b3:(0:Int)<=(k:Int)+1:=by omega
   have b4:IntKind.i64.wrap ((k:Int)+1)=(k:Int)+1:=wrap_small _ (by omega) (by omega);have b5:((k:Int)+1).toNat=k+1:=by omega
   have hix:Lib.indexByte (zA (s.size-(k+1)) (yK (k+1) s.data.toList)) c=-1:=aF7 _ _ (λb hb=>HA.out b (List.mem_of_mem_drop (List.mem_of_mem_take hb))) q4;have HX:Aside (Lib.indexByte (zA (s.size-(k+1)) (yK (k+1) s.data.toList)) c=-1):=hix;clear hix
   go_wp2
   go_step3
   go_wp2
   go_region_o
   go_wp2
   go_quiet_o ((go_at_fn (ρ.f 137);exact(Any.strings_IndexByte { L with } _ _ _).mono (λe w' h=>⟨h.1,_,h.2⟩)))
   rw[HX.out]
   go_wp2
   rw[Exit.noGoto_ret]
   go_wp2
   try rw[Exit.noGoto_ret]
   go_ret
   exact⟨rfl,_,rfl⟩
  .go_wp2
   go_ret
   exact⟨rfl,0,rfl⟩
theorem aLg(L:Lays.n152 P ρ)(s:ByteArray)(r:Int)(w:World)(h1:128<=r)(hs:s.size<4294967281)(has:∀b∈s.data.toList,b.toNat<128):
 Calls P (ρ.f 152) #[.string s,.int .i32 r] w λe w'=>e=.returned (.int .i64 (-1))∧Below w.heap.size w w':=by
 by_cases h2:r=65533
 .subst h2;refine(aNi L s w λj b h=>has b (y7 h)).mono ?_;rintro e w' ⟨rfl,pos,rfl⟩;exact⟨rfl,(Below.refl _ _).alloc (zz _) _⟩
 .cases h3:Lib.validRune r with
  | true=>refine(aOu L s r w h1 h2 h3 hs has).mono ?_;rintro e w' ⟨rfl,n,rfl⟩;exact⟨rfl,⟨rfl,rfl,rfl,zz _,λ_ _=>rfl⟩⟩
  | false=>refine(aNf L s r w h1 h2 h3).mono ?_;rintro e w' ⟨rfl,rfl⟩;exact⟨rfl,Below.refl _ _⟩
def aDl(w:World)(p:Nat)(s:ByteArray)(pos:Nat):World:={ w with heap:=w.heap.setIfInBounds p (.stringIter s pos) }
theorem aLy(w:World)(p:Nat)(s:ByteArray)(pos:Nat)(h:p<w.heap.size):(aDl w p s pos).heap[p]?=some (.stringIter s pos):=by
 simp[aDl,h]
theorem aHz{B:Nat}{a w:World}{p:Nat}(h:Below B a w)(hp:B<=p)(s:ByteArray)(pos:Nat):Below B a (aDl w p s pos):=
 h.trans ⟨rfl,rfl,rfl,by simp[aDl],λk hk=>by show(w.heap.setIfInBounds p _)[k]?=_;rw[Array.getElem?_setIfInBounds_ne (by omega)]⟩
theorem aR4{w:World}{p:Nat}{s:ByteArray}{pos:Nat}(hp:w.heap[p]?=some (.stringIter s pos))(ty:TypeId)(h:pos<s.size):
 (Instr.next (.pointer (some ⟨p,0,none⟩)) true ty).run P w =
  .ok (.tuple #[.bool true,.int .i64 pos,.int .i32 (Utf8.decode s pos).1]) (aDl w p s (pos+(Utf8.decode s pos).2)):=by
 simp only[Instr.next,getObj,setObj,Sem.run_bind,Sem.run,hp,Result.andThen,h,if_true,aDl];simp[goInt]
theorem aM8{w:World}{p:Nat}{s:ByteArray}{pos:Nat}(hp:w.heap[p]?=some (.stringIter s pos))(ty:TypeId)(h:¬pos<s.size):
 (Instr.next (.pointer (some ⟨p,0,none⟩)) true ty).run P w=.ok (.tuple #[.bool false]) w:=by
 simp[Instr.next,getObj,Sem.run,hp,h]
theorem bH0(s:ByteArray)(k:Nat)(h:k<s.size):s.get! k=s[k]'h:=by
 simp[ByteArray.get!,getElem!_pos,h];rfl
theorem aOg(s:ByteArray)(pos:Nat)(h:pos<s.size)(ha:128<=(s[pos]'h).toNat):
 pos+(Utf8.decode s pos).2<=s.size∧∀(j:Nat) b,pos<=j->j<pos+(Utf8.decode s pos).2->s.data.toList[j]?=some b->128<=b.toNat:=by
 have hn:¬(s[pos]'h).toNat<128:=by omega
 have h0:s.get! (pos+0)=s[pos]'h:=get_at s pos h;have key:∀k,(decide (pos+k<s.size)&&(s.get! (pos+k)).toNat / 64==2)=true->pos+k<s.size∧∀b,s.data.toList[pos+k]?=some b->128<=b.toNat:=by
  intro k hk;simp only[zc,decide_eq_true_eq,beq_iff_eq]at hk;refine⟨hk.1,λb hb=>?_⟩;have e:=Lib.data_getElem? s (pos+k) hk.1;rw[e]at hb;have e2:=bH0 s (pos+k) hk.1;cases hb
  rw[<-e2];omega
 have b0:∀b,s.data.toList[pos]?=some b->128<=b.toNat:=by
  intro b hb;rw[Lib.data_getElem? s pos h]at hb;cases hb
  exact ha
 have fin:∀n,n<=4->(∀k,1<=k->k<n->(decide (pos+k<s.size)&&(s.get! (pos+k)).toNat / 64==2)=true)->1<=n->pos+n<=s.size∧∀(j:Nat) b,pos<=j->j<pos+n->s.data.toList[j]?=some b->128<=b.toNat:=by
  intro n hn4 hk h1;refine⟨?_,λj b hj hj2 hb=>?_⟩
  .by_cases h1':n=1
   .omega
   .have:=(key (n-1) (hk (n-1) (by omega) (by omega))).1;omega
  .by_cases hjp:j=pos
   .subst hjp;exact b0 b hb
   .have:=(key (j-pos) (hk (j-pos) (by omega) (by omega))).2 b;rw[show pos+(j-pos)=j by omega]at this;exact this hb
 have one:=fin 1 (by omega) (λk h1 h2=>by omega) (by omega);simp only[Utf8.decode,h0,hn,if_false];split
 .rename_i hc;simp only[zc]at hc;split
  .exact fin 2 (by omega) (λk h1 h2=>by rw[show k=1 by omega,zc];exact hc.2) (by omega)
  .exact one
 .split
  .rename_i hc;simp only[zc]at hc;split
   .exact fin 3 (by omega) (λk h1 h2=>by
     have:k=1∨k=2:=by omega
     rcases this with rfl|rfl
     .rw[zc];exact hc.1.2
     .rw[zc];exact hc.2) (by omega)
   .exact one
  .split
   .rename_i hc;simp only[zc]at hc;split
    .exact fin 4 (by omega) (λk h1 h2=>by
      have:k=1∨k=2∨k=3:=by omega
      rcases this with rfl|rfl|rfl
      .rw[zc];exact hc.1.1.2
      .rw[zc];exact hc.1.2
      .rw[zc];exact hc.2) (by omega)
    .exact one
   .exact one
set_option maxHeartbeats 8000000 in
set_option maxRecDepth 1000000 in
theorem aLn(L:Lays.n153 P ρ)(s chars:ByteArray)(w:World)(h2:2<=chars.size)(h8:s.size<=8)(hcs:chars.size<4294967281)(hac:∀b∈chars.data.toList,b.toNat<128):
 Calls P (ρ.f 153) #[.string s,.string chars] w λe w'=>e=.returned (.int .i64 (Lib.indexAny s.data.toList chars.data.toList))∧Below w.heap.size w w':=by
 have HR:Aside (∀(r:Int) (w:World),128<=r->Calls P (ρ.f 152) #[.string chars,.int .i32 r] w λe w'=>e=.returned (.int .i64 (-1))∧Below w.heap.size w w'):=λr w hr=>aLg { L with } chars r w hr hcs hac;have HC:Aside (∀b∈chars.data.toList,b.toNat<128):=hac;clear hac;have hemp:chars.toList.isEmpty=false:=by
  rw[Lib.toList_data];cases h:chars.data.toList with
  | nil=>have:=Lib.size_eq chars;rw[h,List.length_nil]at this;omega
  | cons _ _=>rfl
 have hn1:((chars.size:Int)==1)=false:=beq_eq_false_iff_ne.2 (by omega);have h8z:decide ((8:Int)<(s.size:Int))=false:=decide_eq_false (by omega);have t3:=L.t3;have a3:=L.a3;have z3:=L.z3;have v3:=L.v3;have t4:=L.t4;have a4:=L.a4;have z4:=L.z4;have v4:=L.v4;have t5:=L.t5;have a5:=L.a5;have z5:=L.z5;have v5:=L.v5;have t9:=L.t9;have a9:=L.a9;have z9:=L.z9;have v9:=L.v9;have t21:=L.t21;have a21:=L.a21;have z21:=L.z21;have v21:=L.v21;have e152:∀args w,(callFunc (ρ.f 152) args).run P w=.ok (.enter (ρ.f 152) args) w:=enters_of L.f152 (by kernel_rfl) rfl;have e226:∀args w,(callFunc (ρ.f 226) args).run P w=.ok (.enter (ρ.f 226) args) w:=enters_of L.f226 (by kernel_rfl) rfl
 go_enter L.f153,Body.n153_ntmps ρ
 go_wp2_with (go_at_fn (ρ.f 226);refine(Any.strings_shouldUseASCIISet { L with } _ _).mono ?_;rintro e w' ⟨rfl,hw⟩;rw[hw,h8z])
 go_loopg [9,10] s.size (λg _ _ wx=>∃i:Nat,i+g=s.size∧Hid (Below w.heap.size w wx∧w.heap.size<wx.heap.size∧wx.heap[w.heap.size]?=some (.stringIter s i))∧Lib.NoAny s.data.toList chars.data.toList i)
 case atStart=>exact⟨0,by omega,⟨(Below.refl _ _).alloc (zz _) _,by simp[World.iter],World.iter_heap w s 0⟩,Lib.NoAny.zero _ _⟩
 case round =>
  obtain⟨i,hig,HW,hno⟩:=hrel;have HN:Aside (Lib.NoAny s.data.toList chars.data.toList i):=hno;clear hno;cases gk with
  | zero =>
    obtain rfl:i=s.size:=by omega
    have hnx:=λty=>aM8 (P:=P) HW.out.2.2 ty (by omega)
    go_wp2
    go_ret
    exact⟨by rw[Lib.indexAny_none (by rw[<-Lib.size_eq];exact HN.out)];rfl,HW.out.1⟩
  | succ g =>
    have hi:i<s.size:=by omega
    have hnx:=λty=>aR4 (P:=P) HW.out.2.2 ty hi;obtain⟨x,hx⟩:∃x:UInt8,s[i]'hi=x:=⟨_,rfl⟩;have hxl:s.data.toList[i]?=some x:=by rw[<-hx];exact Lib.data_getElem? s i hi
    by_cases hlow:x.toNat<128
    .have hd:=decode_ascii s i hi (by rw[hx];exact hlow);rw[hx]at hd;rw[hd]at hnx;have Hx:Aside (s.data.toList[i]?=some x):=hxl;clear hxl hx hd;have HW2:Hid (Below w.heap.size w (aDl wr w.heap.size s (i+1))∧w.heap.size<(aDl wr w.heap.size s (i+1)).heap.size∧(aDl wr w.heap.size s (i+1)).heap[w.heap.size]?=some (.stringIter s (i+1))):=
      ⟨aHz HW.out.1 (zz _) _ _,by simpa[aDl]using HW.out.2.1,aLy _ _ _ _ HW.out.2.1⟩
     have hcon:=Lib.contains_iff_indexByte chars.data.toList x;have hback:((x.toNat:Int)).toNat.toUInt8=x:=by simp
     cases hin:chars.data.toList.contains x
     .rw[hin]at hcon;have hlt:¬((0:Int)<=Lib.indexByte chars.data.toList x):=of_decide_eq_false hcon.symm;clear hcon
      go_wp2_with (go_at_fn (ρ.f 152);refine(Any.strings_IndexRune_ascii { L with } _ _ _ (by omega) (by omega)).mono ?_;rintro e w' ⟨rfl,hw⟩;rw[hw,hback])
      go_roundg g
      case measure=>omega
      case rel=>exact⟨i+1,by omega,HW2,HN.out.succ Hx.out hin⟩
     .rw[hin]at hcon;have hge:(0:Int)<=Lib.indexByte chars.data.toList x:=of_decide_eq_true hcon.symm;clear hcon
      go_wp2_with (go_at_fn (ρ.f 152);refine(Any.strings_IndexRune_ascii { L with } _ _ _ (by omega) (by omega)).mono ?_;rintro e w' ⟨rfl,hw⟩;rw[hw,hback])
      go_ret
      exact⟨by rw[Lib.indexAny_hit HN.out Hx.out hin];rfl,HW2.out.1⟩
    .have hd:=decode_high s i hi (by rw[hx];omega);have hb:=aOg s i hi (by rw[hx];omega);generalize (Utf8.decode s i)=rk at hnx hd hb;obtain⟨r,k⟩:=rk;simp only at hnx hd hb;obtain⟨hd1,hd2⟩:=hd;obtain⟨hb1,hb2⟩:=hb;have hno:Lib.NoAny s.data.toList chars.data.toList (i+k):=by
      intro j b hj hjb;by_cases hji:j<i
      .exact HN.out j b hji hjb
      .have h128:=hb2 j b (by omega) hj hjb;cases hc:chars.data.toList.contains b with
       | false=>rfl
       | true=>have:=HC.out b (List.contains_iff_mem.1 hc);omega
     have HN2:Aside (Lib.NoAny s.data.toList chars.data.toList (i+k)):=hno;clear hno hb2 hxl hx;have hr:(128:Int)<=(r:Int):=by omega
     have hm1:¬((0:Int)<=-1):=by omega
     go_wp2_with (go_at_fn (ρ.f 152);refine(HR.out _ _ hr).mono ?_;rintro e w' ⟨rfl,hw⟩)
     go_roundg (g+1-k)
     case measure=>omega
     case rel =>
      have q1:=aLy wr w.heap.size s (i+k) HW.out.2.1;have q2:w.heap.size<(aDl wr w.heap.size s (i+k)).heap.size:=by simpa[aDl]using HW.out.2.1
      have q3:=aHz HW.out.1 (zz _) s (i+k);exact⟨i+k,by omega,⟨q3.trans (hw.mono (Nat.le_of_lt q2)),Nat.lt_of_lt_of_le q2 hw.size,(hw.block _ q2).trans q1⟩,HN2.out⟩
theorem aI2(L:Lays.n153 P ρ)(hv116:∀w,(zeroValue (ρ.t 116)).run P w=.ok (.agg (Array.replicate 256 (.bool false))) w)(hi116:(P.info? (ρ.t 116)).map (·.size)=some 256)(s chars:ByteArray)(w:World)(h2:2<=chars.size)(hs:s.size<4294967281)(hcs:chars.size<4294967281)
 (hac:∀b∈chars.data.toList,b.toNat<128) :
 Calls P (ρ.f 153) #[.string s,.string chars] w λe w'=>e=.returned (.int .i64 (Lib.indexAny s.data.toList chars.data.toList))∧Below w.heap.size w w':=by
 by_cases h8:s.size<=8
 .exact aLn L s chars w h2 h8 hcs hac
 .refine(Any.strings_IndexAny_long L hv116 hi116 s chars w h2 (by omega) hs hcs λj b h=>hac b (y7 h)).mono λe w' ⟨h1,h2⟩=>⟨h1,?_⟩;rw[h2];exact((Below.refl _ _).alloc (zz _) _).alloc (by simp) _
set_option maxHeartbeats 1000000 in
theorem aKk(L:Lays.n150 P ρ)(h116:(P.info? (ρ.t 116)).map (λi=>(i.zero,i.size))=some (some (.agg (Array.replicate 256 (.bool false))),256))(s chars:ByteArray)(w:World)(h2:2<=chars.size)(hs:s.size<4294967281)(hcs:chars.size<4294967281)
 (hac:∀b∈chars.data.toList,b.toNat<128) :
 Calls P (ρ.f 150) #[.string s,.string chars] w λe w'=>e=.returned (.bool (Lib.containsAny s.data.toList chars.data.toList))∧Below w.heap.size w w':=by
 have c:=aI2 { L with } (zero_of_info h116).1 (zero_of_info h116).2 s chars w h2 hs hcs hac;have t3:=L.t3;have a3:=L.a3;have z3:=L.z3;have v3:=L.v3;have t4:=L.t4;have a4:=L.a4;have z4:=L.z4;have v4:=L.v4;have t9:=L.t9;have a9:=L.a9;have z9:=L.z9;have v9:=L.v9;have e153:∀args w,(callFunc (ρ.f 153) args).run P w=.ok (.enter (ρ.f 153) args) w:=enters_of L.f153 (by kernel_rfl) rfl
 go_enter L.f150,Body.n150_ntmps ρ
 go_wp2_with (go_at_fn (ρ.f 153);refine c.mono ?_;rintro e w' ⟨rfl,hw⟩)
 go_ret
 exact⟨rfl,hw⟩
end Go.Ab
namespace Go.Ab
variable {P:Program} {F T:Nat->Nat}
def AnyC(P:Program)(F:Nat->Nat):Prop:=∀s chars:List UInt8,2<=chars.length->chars.length<=100->s.length<=100000->(∀b,b∈chars->b.toNat<128)->PTr P (F 54) [.str s,.str chars] (.bool (Go.Lib.containsAny s chars))
theorem bK2(h:∀(s chars:ByteArray) (w:World),2<=chars.size->s.size<4294967281->chars.size<4294967281->(∀b∈chars.data.toList,b.toNat<128) ->
 Calls P (F 54) #[.string s,.string chars] w λe w'=>e=.returned (.bool (Go.Lib.containsAny s.data.toList chars.data.toList))∧Go.RowKit.Below w.heap.size w w'):AnyC P F:=by
 intro s chars h2 hc hs ha D w vs hD hg hl hr;obtain⟨u,v,rfl,hu,hv⟩:=vs2 hl hr;cases hu;cases hv
 refine(h ⟨s.toArray⟩ ⟨chars.toArray⟩ w (by simpa[zC]using h2) (by simp[zC];omega) (by simp[zC];omega) (by simpa using ha)).mono ?_;rintro e w' ⟨rfl,hb⟩;exact⟨_,rfl,hb,.bool _⟩
theorem aQq{s chars:List UInt8}(h:Go.Lib.containsAny s chars=false):∀b,b∈s->chars.contains b=false:=by
 intro b hb;cases hc:chars.contains b with
 | false=>rfl
 | true =>
   exfalso;have key:∀l:List UInt8,b∈l->0<=Go.Lib.indexAny l chars:=by
    intro l;induction l with
    | nil=>intro h;simp at h
    | cons x r ih =>
      intro hm;have hge:=Go.Lib.indexAny_ge chars r;unfold Go.Lib.indexAny;split
      .omega
      .rename_i hx;have hbr:b∈r:=by
        rcases List.mem_cons.1 hm with rfl|h
        .exact absurd hc hx
        .exact h
       have:=ih hbr;split
       .rename_i h1;have:=beq_iff_eq.1 h1;omega
       .omega
   have:=key s hb;rw[Go.Lib.containsAny,decide_eq_false_iff_not]at h;exact h this
end Go.Ab
