/- Several texts of one kind, merged. No condition. -/
import Derived.Test.YtcmnepgnkcoiiaaGreatDoorAbG13
import Derived.Test.YtcmnepgnkcoiiaaGreatDoorAbR7
import Derived.Test.YtcmnepgnkcoiiaaGreatDoorAbD1
import Derived.Test.YtcmnepgnkcoiiaaGreatDoorAbR4
set_option linter.unusedSimpArgs false
set_option linter.unusedVariables false
namespace Go.Ab
variable {P:Program} {F T:Nat→Nat}
def TM (T:Nat→Nat) (L:Heap) (nx p:Nat) (l:List (List UInt8)) (v:V) (L':Heap) (nx':Nat):Prop:=∃ q,q∈l∧v=.str q∧TD T L nx p L' nx'
theorem bDx {l:List (List UInt8)} {i:Nat} (h:i<l.length):(l.map V.str).getD i .junk=.str (l.getD i []):=by simp [List.getD,h]
theorem aY8 {l:List (List UInt8)} {i:Nat} (h:i<l.length):l.getD i []∈l:=by simp [List.getD,h]
theorem m47 (K:TC P F T) {L:Heap} {nx p:Nat} (h:TB T L p) (hp:p<nx) (l:List (List UInt8)) (h2:1≤l.length) (h3:l.length≤100) :
 ECall P (F 47) [.ptr p 0,.lst 1 (l.map .str)] L nx (TM T L nx p l):=by
 refine aAy [] K.h47 (by simp) ?_
 have hl:(l.map V.str).length=l.length:=List.length_map ..
 simp only [c47,push_cast,seval,-Nat.reducePow]
 refine aAa (n46 K h (nx:=nx+24) (by omega) (l.map V.str).length (by omega) (by omega)) ?_
 rintro v L1 n1 ⟨r,rfl,hr,hT⟩
 have hq:=bDx (l:=l) (i:=r) (by omega)
 have z:=hT.dn (nx:=nx) (by omega)
 simp only [push_cast,seval,-Nat.reducePow,hq]
 exact ⟨by omega,by have:=z.le; omega,_,aY8 (by omega),rfl,z.up (by omega)⟩
def aO6:List (List UInt8):=[[65],[66],[65,47,66],[67],[84],[85,47,120],[65,47,66,47,99],[76,111,110,103,32,110,97,109,101],[49],[88]]
def TT2 (T:Nat→Nat) (L:Heap) (nx p:Nat) (v:V) (L':Heap) (nx':Nat):Prop:=∃ (sp:Nat) (q:List UInt8),sp<6∧q∈aO6∧v=ttV sp q∧TD T L nx p L' nx'
theorem TD.add {L L1:Heap} {nx p n1 i:Nat} {x:Option Blk} (h:TD T L nx p L1 n1) (hi:nx≤i) (hip:i≠p) (m:Nat) (hm:n1≤m):TD T L nx p (upd L1 i x) m:=by
 obtain ⟨es,a,h1,h2,h3,h4⟩:=h.tb
 exact ⟨⟨es,a,by rw [aAg _ _ _ _ (fun e=>hip e.symm)]; exact h1,h2,h3,h4⟩,Nat.le_trans h.le hm,fun b hb hbp=>by rw [aAg _ _ _ _ (by omega)]; exact h.fr b hb hbp⟩
theorem TB.add {L:Heap} {p i:Nat} {x:Option Blk} (h:TB T L p) (hip:i≠p):TB T (upd L i x) p:=by
 obtain ⟨es,a,h1,h2,h3,h4⟩:=h
 exact ⟨es,a,by rw [aAg _ _ _ _ (fun e=>hip e.symm)]; exact h1,h2,h3,h4⟩
theorem TD.base {L:Heap} {nx p i:Nat} {x:Option Blk} {L1:Heap} {n1 m:Nat} (hi:nx≤i) (hm:nx≤m) (k:TD T (upd L i x) m p L1 n1):TD T L nx p L1 n1 :=
 ⟨k.tb,Nat.le_trans hm k.le,fun b hb hbp=>by rw [k.fr b (by omega) hbp,aAg _ _ _ _ (by omega)]⟩
theorem n213 (K:TC P F T) (hf:bD8 P F T) {L:Heap} {nx p:Nat} (h:TB T L p) (hp:p<nx):ECall P (F 213) [.ptr p 0] L nx (TT2 T L nx p):=by
 refine aAy [] hf (by simp) ?_
 simp only [c213,push_cast,seval,-Nat.reducePow]
 refine aAa (n46 K (h.add (by omega)) (by omega) 6 (by omega) (by omega)) ?_
 rintro v L1 n1 ⟨r,rfl,hr,hT⟩
 have hx:L1 (nx+2)=some (.box (T 17) [.int .i64 0,.str []]):=by rw [hT.fr _ (by omega) (by omega)]; exact aAf _ _ _
 have z:=(hT.base (nx:=nx) (by omega) (by omega))
 have le1:=hT.le
 simp only [push_cast,seval,-Nat.reducePow]
 refine aAa (m47 K z.tb (by omega) aO6 (by simp [aO6]) (by simp [aO6])) ?_
 rintro v L2 n2 ⟨q,hq,rfl,hT2⟩
 have hx2:L2 (nx+2)=some (.box (T 17) [.int .i64 0,.str []]):=by rw [hT2.fr _ (by omega) (by omega)]; exact hx
 have z2:=z.trans (hT2.dn (by omega))
 have le2:=hT2.le
 have hu:=fun (x:Option Blk) (M:Heap)=>aAf M (nx+2) x
 simp only [push_cast,seval,-Nat.reducePow,hx2,hu]
 exact ⟨by omega,r,q,hr,hq,rfl,z2.add (by omega) (by omega) _ (by omega)⟩
structure PW (T:Nat→Nat) (L0:Heap) (nx p:Nat) (gs:List Gro) (rs:List Rul) (ds:List Grd) (L:Heap) (m:Nat):Prop where
 tb:TB T L p
 le:nx+142≤m
 bx:L (nx+141)=some (.box (T 16) [.lst 2 (grV gs),.lst 6 (ruV rs),.lst 5 (gdV ds)])
 rb:L (nx+2)=some (.box (T 16) [.nils,.nils,.nils])
 fr:∀ b ty cs,b<nx→b≠p→L0 b=some (.box ty cs)→V.imms cs=true→L b=some (.box ty cs)
section
variable {L0 L L1:Heap} {nx p m n1:Nat} {gs:List Gro} {rs:List Rul} {ds:List Grd}
theorem PW.next (h:PW T L0 nx p gs rs ds L m) (hp:p<nx) {m':Nat} (hm:m≤m') (k:TD T L m' p L1 n1):PW T L0 nx p gs rs ds L1 n1:=by
 have a:=h.le
 have b:=k.le
 refine ⟨k.tb,by omega,?_,?_,fun b ty cs hb hbp hL hc=>?_⟩
 ·rw [k.fr _ (by omega) (by omega)]; exact h.bx
 ·rw [k.fr _ (by omega) (by omega)]; exact h.rb
 ·rw [k.fr _ (by omega) hbp]; exact h.fr b ty cs hb hbp hL hc
theorem PW.add (h:PW T L0 nx p gs rs ds L m) (hp:p<nx) {i:Nat} (hi:nx+142≤i) (x:Option Blk):PW T L0 nx p gs rs ds (upd L i x) m :=
 ⟨h.tb.add (by omega),h.le,by rw [aAg _ _ _ _ (by omega)]; exact h.bx,by rw [aAg _ _ _ _ (by omega)]; exact h.rb,fun b ty cs hb hbp hL hc=>by rw [aAg _ _ _ _ (by omega)]; exact h.fr b ty cs hb hbp hL hc⟩
theorem PW.up (h:PW T L0 nx p gs rs ds L m) {m':Nat} (hm:m≤m'):PW T L0 nx p gs rs ds L m':=⟨h.tb,Nat.le_trans h.le hm,h.bx,h.rb,h.fr⟩
theorem aWi {es:List V} (h:∀ e,e∈es→∃ m,e=.int .i64 m):V.imms es=true:=by
 induction es with
 | nil=>rfl
 | cons x r ih =>
   obtain ⟨m,rfl⟩:=h x (List.mem_cons_self ..)
   simp only [V.imms,V.imm,Bool.true_and]
   exact ih fun e he=>h e (List.mem_cons_of_mem _ he)
theorem TB.fz {L':Heap} (h:TB T L p) (f:∀ b ty cs,L b=some (.box ty cs)→V.imms cs=true→L' b=some (.box ty cs)):TB T L' p:=by
 obtain ⟨es,a,h1,h2,h3,h4⟩:=h
 exact ⟨es,a,f _ _ _ h1 (by simp [V.imms,V.imm,aWi h2]),h2,h3,h4⟩
theorem PW.fz {L':Heap} (h:PW T L0 nx p gs rs ds L m) (f:∀ b ty cs,L b=some (.box ty cs)→V.imms cs=true→L' b=some (.box ty cs)):PW T L0 nx p gs rs ds L' m :=
 ⟨h.tb.fz f,h.le,f _ _ _ h.bx (by simp [V.imms,V.imm,aM3,aJ8,aXn]),f _ _ _ h.rb (by simp [V.imms,V.imm]),fun b ty cs hb hbp hL hc=>f _ _ _ (h.fr b ty cs hb hbp hL hc) hc⟩
end
end Go.Ab
namespace Go.Ab
variable {P:Program} {F T:Nat→Nat}
structure TC3 (P:Program) (F T:Nat→Nat):Prop extends TC P F T where
 h207:bIn P F T
 h208:bGy P F T
 h213:bD8 P F T
 h221:bIb P F T
def Rul.cs (x:Rul):List V:=[.bool x.al,.int .i64 x.ri,.str x.gr,.int .i64 x.sc.k,.int .i64 x.sc.sp,.str x.sc.n]
def Grd.cs (x:Grd):List V:=[.bool x.st,.str x.gr,.int .i64 x.sp,.str x.n,.str x.sec]
theorem PW.set {L0 L:Heap} {nx p m:Nat} {gs:List Gro} {rs rs':List Rul} {ds:List Grd} (h:PW T L0 nx p gs rs ds L m) (hp:p<nx):PW T L0 nx p gs rs' ds (upd L (nx+141) (some (.box (T 16) [.lst 2 (grV gs),.lst 6 (ruV rs'),.lst 5 (gdV ds)]))) m :=
 ⟨h.tb.add (by omega),h.le,aAf _ _ _,by rw [aAg _ _ _ _ (by omega)]; exact h.rb,fun b ty cs hb hbp hL hc=>by rw [aAg _ _ _ _ (by omega)]; exact h.fr b ty cs hb hbp hL hc⟩
end Go.Ab
namespace Go.Ab
variable {P:Program} {F T:Nat→Nat}
theorem n39f (hf:Is39 P F T) {L:Heap} {nx:Nat} (es:List V) (hi:V.imms es=true) (hes:∀ e,e∈es→∃ m,e=.int .i64 m) (hl:es.length<2^63) :
 ECall P (F 39) [.lst 1 es] L nx (fun v L' nx'=>∃ p,v=.ptr p 0∧p<nx'∧nx≤p∧TB T L' p∧∀ b,b<nx→L' b=L b):=by
 refine aAy [] hf (by simp) ?_
 simp only [c39,push_cast,seval,-Nat.reducePow]
 exact ⟨by omega,nx+11,rfl,by omega,by omega,⟨es,0,aAf _ _ _,hes,Nat.zero_le _,hl⟩,fun b hb=>aAg _ _ _ _ (by omega)⟩
end Go.Ab
