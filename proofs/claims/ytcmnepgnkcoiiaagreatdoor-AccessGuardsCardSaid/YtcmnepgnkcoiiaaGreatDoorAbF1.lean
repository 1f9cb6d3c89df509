/- Several texts of one kind, merged. No condition. -/
import Derived.Test.YtcmnepgnkcoiiaaGreatDoorAbG13
import Derived.Test.YtcmnepgnkcoiiaaGreatDoorAbR7
import Derived.Test.YtcmnepgnkcoiiaaGreatDoorAbD1
import Derived.Test.YtcmnepgnkcoiiaaGreatDoorAbR4
set_option linter.unusedSimpArgs false
set_option linter.unusedVariables false
namespace Go.Ab
variable {P:Program} {F T:Nat→Nat}
def TM (T:Nat→Nat) (L:Heap) (nx p:Nat) (l:List (List UInt8)) (v:V) (L':Heap) (nx':Nat):Prop:=∃ q,q∈l∧v=.str q∧TD T L nx p L' nx'
theorem aQl {l:List (List UInt8)} {i:Nat} (h:i<l.length):(l.map V.str).getD i .junk=.str (l.getD i []):=by simp [List.getD,h]
theorem aW1 {l:List (List UInt8)} {i:Nat} (h:i<l.length):l.getD i []∈l:=by simp [List.getD,h]
theorem m47 (K:TC P F T) {L:Heap} {nx p:Nat} (h:TB T L p) (hp:p<nx) (l:List (List UInt8)) (h2:1≤l.length) (h3:l.length≤100) :
 ECall P (F 47) [.ptr p 0,.lst 1 (l.map .str)] L nx (TM T L nx p l):=by
 refine aAw [] K.h47 (by simp) ?_
 have hl:(l.map V.str).length=l.length:=List.length_map ..
 simp only [c47,push_cast,seval,-Nat.reducePow]
 refine aAa (n46 K h (nx:=nx+24) (by omega) (l.map V.str).length (by omega) (by omega)) ?_
 rintro v L1 n1 ⟨r,rfl,hr,hT⟩
 have hq:=aQl (l:=l) (i:=r) (by omega)
 have z:=hT.dn (nx:=nx) (by omega)
 simp only [push_cast,seval,-Nat.reducePow,hq]
 exact ⟨by omega,by have:=z.le; omega,_,aW1 (by omega),rfl,z.up (by omega)⟩
def aCv:List (List UInt8):=[[115,116,97,102,102],[109,111,100,115],[103,111,108,100]]
def aLw:List (List UInt8):=[[97,110,110],[98,111,98],[115,116,97,102,102],[109,111,100,115],[122,111,101]]
def aMm:List (List UInt8):=[[97,110,110],[98,111,98],[],[122,111,101]]
def aJf:List (List UInt8):=[[65],[66],[65,47,66],[67],[84],[85,47,120],[65,47,66,47,99],[76,111,110,103,32,110,97,109,101],[49],[88]]
theorem n221 (K:TC P F T) (hf:bE8 P F T) {L:Heap} {nx p:Nat} (h:TB T L p) (hp:p<nx):ECall P (F 221) [.ptr p 0] L nx (TM T L nx p aLw):=by
 refine aAw [] hf (by simp) ?_
 simp only [c221,push_cast,seval,-Nat.reducePow]
 refine aAa (m47 K h (nx:=nx+6+6) (by omega) aLw (by simp [aLw]) (by simp [aLw])) ?_
 rintro v L1 n1 ⟨q,hq,rfl,hT⟩
 have z:=hT.dn (nx:=nx) (by omega)
 have:=z.le
 exact ⟨by omega,q,hq,rfl,z.up (by omega)⟩
theorem n208 (K:TC P F T) (hf:bEm P F T) {L:Heap} {nx p:Nat} (h:TB T L p) (hp:p<nx):ECall P (F 208) [.ptr p 0] L nx (TM T L nx p aMm):=by
 refine aAw [] hf (by simp) ?_
 simp only [c208,push_cast,seval,-Nat.reducePow]
 refine aAa (m47 K h (nx:=nx+6+6) (by omega) aMm (by simp [aMm]) (by simp [aMm])) ?_
 rintro v L1 n1 ⟨q,hq,rfl,hT⟩
 have z:=hT.dn (nx:=nx) (by omega)
 have:=z.le
 exact ⟨by omega,q,hq,rfl,z.up (by omega)⟩
def TT2 (T:Nat→Nat) (L:Heap) (nx p:Nat) (v:V) (L':Heap) (nx':Nat):Prop:=∃ (sp:Nat) (q:List UInt8),sp<6∧q∈aJf∧v=ttV sp q∧TD T L nx p L' nx'
theorem TD.add {L L1:Heap} {nx p n1 i:Nat} {x:Option Blk} (h:TD T L nx p L1 n1) (hi:nx≤i) (hip:i≠p) (m:Nat) (hm:n1≤m):TD T L nx p (upd L1 i x) m:=by
 obtain ⟨es,a,h1,h2,h3,h4⟩:=h.tb
 exact ⟨⟨es,a,by rw [aAf _ _ _ _ (fun e=>hip e.symm)]; exact h1,h2,h3,h4⟩,Nat.le_trans h.le hm,fun b hb hbp=>by rw [aAf _ _ _ _ (by omega)]; exact h.fr b hb hbp⟩
theorem TB.add {L:Heap} {p i:Nat} {x:Option Blk} (h:TB T L p) (hip:i≠p):TB T (upd L i x) p:=by
 obtain ⟨es,a,h1,h2,h3,h4⟩:=h
 exact ⟨es,a,by rw [aAf _ _ _ _ (fun e=>hip e.symm)]; exact h1,h2,h3,h4⟩
theorem TD.base {L:Heap} {nx p i:Nat} {x:Option Blk} {L1:Heap} {n1 m:Nat} (hi:nx≤i) (hm:nx≤m) (k:TD T (upd L i x) m p L1 n1):TD T L nx p L1 n1 :=
 ⟨k.tb,Nat.le_trans hm k.le,fun b hb hbp=>by rw [k.fr b (by omega) hbp,aAf _ _ _ _ (by omega)]⟩
theorem n213 (K:TC P F T) (hf:bGg P F T) {L:Heap} {nx p:Nat} (h:TB T L p) (hp:p<nx):ECall P (F 213) [.ptr p 0] L nx (TT2 T L nx p):=by
 refine aAw [] hf (by simp) ?_
 simp only [c213,push_cast,seval,-Nat.reducePow]
 refine aAa (n46 K (h.add (by omega)) (by omega) 6 (by omega) (by omega)) ?_
 rintro v L1 n1 ⟨r,rfl,hr,hT⟩
 have hx:L1 (nx+2)=some (.box (T 17) [.int .i64 0,.str []]):=by rw [hT.fr _ (by omega) (by omega)]; exact aAe _ _ _
 have z:=(hT.base (nx:=nx) (by omega) (by omega))
 have le1:=hT.le
 simp only [push_cast,seval,-Nat.reducePow]
 refine aAa (m47 K z.tb (by omega) aJf (by simp [aJf]) (by simp [aJf])) ?_
 rintro v L2 n2 ⟨q,hq,rfl,hT2⟩
 have hx2:L2 (nx+2)=some (.box (T 17) [.int .i64 0,.str []]):=by rw [hT2.fr _ (by omega) (by omega)]; exact hx
 have z2:=z.trans (hT2.dn (by omega))
 have le2:=hT2.le
 have hu:=fun (x:Option Blk) (M:Heap)=>aAe M (nx+2) x
 simp only [push_cast,seval,-Nat.reducePow,hx2,hu]
 exact ⟨by omega,r,q,hr,hq,rfl,z2.add (by omega) (by omega) _ (by omega)⟩
def gOk (g:Gro):Prop:=g.m.length≤2∧∀ m,m∈g.m→m≠[]∧m.length≤6
structure PolG (gs:List Gro) (rs:List Rul) (ds:List Grd):Prop where
 gl:gs.length≤3
 gn:gs.map Gro.n=aCv.take gs.length
 gm:∀ g,g∈gs→gOk g
 rl:rs.length≤7
 rn:∀ r,r∈rs→r.sc.n∈[]::aJf
 dl:ds.length≤3
structure PW (T:Nat→Nat) (L0:Heap) (nx p:Nat) (gs:List Gro) (rs:List Rul) (ds:List Grd) (L:Heap) (m:Nat):Prop where
 tb:TB T L p
 le:nx+142≤m
 bx:L (nx+141)=some (.box (T 16) [.lst 2 (grV gs),.lst 6 (ruV rs),.lst 5 (gdV ds)])
 rb:L (nx+2)=some (.box (T 16) [.nils,.nils,.nils])
 fr:∀ b ty cs,b<nx→b≠p→L0 b=some (.box ty cs)→V.imms cs=true→L b=some (.box ty cs)
section
variable {L0 L L1:Heap} {nx p m n1:Nat} {gs:List Gro} {rs:List Rul} {ds:List Grd}
theorem PW.next (h:PW T L0 nx p gs rs ds L m) (hp:p<nx) {m':Nat} (hm:m≤m') (k:TD T L m' p L1 n1):PW T L0 nx p gs rs ds L1 n1:=by
 have a:=h.le
 have b:=k.le
 refine ⟨k.tb,by omega,?_,?_,fun b ty cs hb hbp hL hc=>?_⟩
 ·rw [k.fr _ (by omega) (by omega)]; exact h.bx
 ·rw [k.fr _ (by omega) (by omega)]; exact h.rb
 ·rw [k.fr _ (by omega) hbp]; exact h.fr b ty cs hb hbp hL hc
theorem PW.add (h:PW T L0 nx p gs rs ds L m) (hp:p<nx) {i:Nat} (hi:nx+142≤i) (x:Option Blk):PW T L0 nx p gs rs ds (upd L i x) m :=
 ⟨h.tb.add (by omega),h.le,by rw [aAf _ _ _ _ (by omega)]; exact h.bx,by rw [aAf _ _ _ _ (by omega)]; exact h.rb,fun b ty cs hb hbp hL hc=>by rw [aAf _ _ _ _ (by omega)]; exact h.fr b ty cs hb hbp hL hc⟩
theorem PW.up (h:PW T L0 nx p gs rs ds L m) {m':Nat} (hm:m≤m'):PW T L0 nx p gs rs ds L m':=⟨h.tb,Nat.le_trans h.le hm,h.bx,h.rb,h.fr⟩
theorem aPv {es:List V} (h:∀ e,e∈es→∃ m,e=.int .i64 m):V.imms es=true:=by
 induction es with
 | nil=>rfl
 | cons x r ih =>
   obtain ⟨m,rfl⟩:=h x (List.mem_cons_self ..)
   simp only [V.imms,V.imm,Bool.true_and]
   exact ih fun e he=>h e (List.mem_cons_of_mem _ he)
theorem TB.fz {L':Heap} (h:TB T L p) (f:∀ b ty cs,L b=some (.box ty cs)→V.imms cs=true→L' b=some (.box ty cs)):TB T L' p:=by
 obtain ⟨es,a,h1,h2,h3,h4⟩:=h
 exact ⟨es,a,f _ _ _ h1 (by simp [V.imms,V.imm,aPv h2]),h2,h3,h4⟩
theorem PW.fz {L':Heap} (h:PW T L0 nx p gs rs ds L m) (f:∀ b ty cs,L b=some (.box ty cs)→V.imms cs=true→L' b=some (.box ty cs)):PW T L0 nx p gs rs ds L' m :=
 ⟨h.tb.fz f,h.le,f _ _ _ h.bx (by simp [V.imms,V.imm,aIp,aE7,aIv]),f _ _ _ h.rb (by simp [V.imms,V.imm]),fun b ty cs hb hbp hL hc=>f _ _ _ (h.fr b ty cs hb hbp hL hc) hc⟩
theorem PW.fzb {L':Heap} {gs':List Gro} {rs':List Rul} {ds':List Grd} (h:PW T L0 nx p gs rs ds L m) (hp:p<nx) (hx:L' (nx+141)=some (.box (T 16) [.lst 2 (grV gs'),.lst 6 (ruV rs'),.lst 5 (gdV ds')]))
 (f:∀ b ty cs,b≠nx+141→L b=some (.box ty cs)→V.imms cs=true→L' b=some (.box ty cs)):PW T L0 nx p gs' rs' ds' L' m:=by
 refine ⟨?_,h.le,hx,f _ _ _ (by omega) h.rb (by simp [V.imms,V.imm]),fun b ty cs hb hbp hL hc=>f _ _ _ (by omega) (h.fr b ty cs hb hbp hL hc) hc⟩
 obtain ⟨es,a,h1,h2,h3,h4⟩:=h.tb
 exact ⟨es,a,f _ _ _ (by omega) h1 (by simp [V.imms,V.imm,aPv h2]),h2,h3,h4⟩
end
theorem aHv {s:St} {K:St→Prop} {p id ty ty0 sz:Nat} {es pre post:List V} {n:Nat} (hp:s.L p=some (.box ty0 (pre++.own id sz 0 n::post))) (hid:s.L id=some (.vec ty sz es)) (hn:n=es.length) (hi:V.imms es=true) (hpre:V.imms pre=true) (hpost:V.imms post=true)
 (h:∀ s':St,s'.nx=s.nx→s'.L p=some (.box ty0 (pre++.lst sz es::post))→(∀ i,(s.env i).imm=true→s'.env i=s.env i)→(∀ i a b,s.env i=.ptr a b→s'.env i=.ptr a b) →
  (∀ b ty cs,s.L b=some (.box ty cs)→V.imms cs=true→s'.L b=some (.box ty cs))→K s'):∃ s',FzS s s'∧K s':=by
 have key:∀ b ty1 cs,s.L b=some (.box ty1 cs)→aA4 id es s.L b=some (.box ty1 (V.fzL id es cs)):=by
  intro b ty1 cs hb
  have hne:b≠id:=by rintro rfl; rw [hid] at hb; cases hb
  simp [aA4,hne,hb,Blk.fz]
 refine ⟨s.fz id es,.step id ty sz es hid hi (.refl _),h _ rfl ?_ (fun i h=>aHw id es _ h) (fun i a b h=>?_) fun b ty1 cs hb hc=>?_⟩
 ·rw [show (s.fz id es).L p=aA4 id es s.L p from rfl,key p ty0 _ hp,aB3,List.map_append,List.map_cons,← aB3,← aB3,aCj id es pre hpre,aCj id es post hpost]
  subst hn
  simp [V.fz]
 ·show (s.env i).fz id es=_
  rw [h]; rfl
 ·rw [show (s.fz id es).L b=aA4 id es s.L b from rfl,key b ty1 cs hb,aCj id es cs hc]
end Go.Ab
namespace Go.Ab
variable {P:Program} {F T:Nat→Nat}
structure TC3 (P:Program) (F T:Nat→Nat):Prop extends TC P F T where
 h207:bHg P F T
 h208:bEm P F T
 h213:bGg P F T
 h221:bE8 P F T
theorem bJd {s:St} {K:St→Prop} {p ty:Nat} {cs cs':List V} (hp:s.L p=some (.box ty cs)) (hle:V.leL cs cs') (h:K ⟨s.env,upd s.L p (some (.box ty cs')),s.nx⟩):∃ s',FzS s s'∧K s' :=
 ⟨_,FzS.le p ty cs cs' hp hle (.refl _),h⟩
theorem bKd (i:Nat):(aCv.getD i []).length≤5:=by
 match i with
 | 0=>simp [aCv]
 | 1=>simp [aCv]
 | 2=>simp [aCv]
 | n+3=>simp [aCv]
theorem bJo {q:List UInt8} (h:q∈aLw):q≠[]∧q.length≤6:=by
 simp only [aLw,List.mem_cons,List.not_mem_nil,or_false] at h
 rcases h with rfl | rfl | rfl | rfl | rfl <;> simp
def nmV:V:=.lst 1 (aCv.map .str)
def Rul.cs (x:Rul):List V:=[.bool x.al,.int .i64 x.ri,.str x.gr,.int .i64 x.sc.k,.int .i64 x.sc.sp,.str x.sc.n]
def Grd.cs (x:Grd):List V:=[.bool x.st,.str x.gr,.int .i64 x.sp,.str x.n,.str x.sec]
theorem PW.set {L0 L:Heap} {nx p m:Nat} {gs:List Gro} {rs rs':List Rul} {ds:List Grd} (h:PW T L0 nx p gs rs ds L m) (hp:p<nx):PW T L0 nx p gs rs' ds (upd L (nx+141) (some (.box (T 16) [.lst 2 (grV gs),.lst 6 (ruV rs'),.lst 5 (gdV ds)]))) m :=
 ⟨h.tb.add (by omega),h.le,aAe _ _ _,by rw [aAf _ _ _ _ (by omega)]; exact h.rb,fun b ty cs hb hbp hL hc=>by rw [aAf _ _ _ _ (by omega)]; exact h.fr b ty cs hb hbp hL hc⟩
def gMem (ms:List (List UInt8)):Prop:=∀ m,m∈ms→m≠[]∧m.length≤6
theorem aLl (l:List (List UInt8)) (i:Nat) (h:i<l.length):l.take (i+1)=l.take i++[l.getD i []]:=by
 rw [List.take_add_one]; simp [List.getD,h]
theorem n207 (K:TC3 P F T) {L:Heap} {nx p:Nat} (h:TB T L p) (hp:p<nx) :
 ECall P (F 207) [.ptr p 0] L nx (fun v L' nx'=>∃ gs rs ds,PolG gs rs ds∧v=polV (grV gs) rs (gdV ds)∧nx≤nx'∧TB T L' p∧∀ b ty cs,b<nx→b≠p→L b=some (.box ty cs)→V.imms cs=true→L' b=some (.box ty cs)):=by
 refine aAw [] K.h207 (by simp) ?_
 have hu:=fun (x:Option Blk) (M:Heap)=>aAe M (nx+141) x
 simp only [c207,push_cast,seval,-Nat.reducePow]
 refine bJd (p:=nx+141) (ty:=T 16) (cs:=[.nils,.nils,.nils]) (cs':=[.lst 2 (grV []),.lst 6 (ruV []),.lst 5 (gdV [])]) (by simp only [push_cast,seval,-Nat.reducePow]) (by simp [aAu,aBh,grV,ruV,gdV,aC9]) ?_
 simp only [push_cast,seval,-Nat.reducePow]
 have w0:PW T L nx p [] [] [] (upd (upd (upd L (nx+2) (some (.box (T 16) [.nils,.nils,.nils]))) (nx+141) (some (.box (T 16) [.nils,.nils,.nils]))) (nx+141) (some (.box (T 16) [.lst 2 (grV []),.lst 6 (ruV []),.lst 5 (gdV [])]))) (nx+142) :=
  ⟨((h.add (by omega)).add (by omega)).add (by omega),by omega,aAe _ _ _,by rw [aAf _ _ _ _ (by omega),aAf _ _ _ _ (by omega)]; exact aAe _ _ _,fun b ty cs hb hbp hL _=>by rw [aAf _ _ _ _ (by omega),aAf _ _ _ _ (by omega),aAf _ _ _ _ (by omega)]; exact hL⟩
 refine aAa (n46 K.toTC w0.tb (by omega) 4 (by omega) (by omega)) ?_
 rintro v L1 n1 ⟨n,rfl,hn,hT1⟩
 have w1:=w0.next hp (by omega) hT1
 have le1:=hT1.le
 simp only [push_cast,seval,-Nat.reducePow]
 refine aAl (fun s=>∃ gs,PolG gs [] []∧s.env 0=.ptr p 0∧s.env 2=.ptr (nx+2) 0∧s.env 3=.ptr (nx+141) 0∧s.env 4=nmV∧s.env 5=.int .i64 n∧PW T L nx p gs [] [] s.L s.nx) ?_ ?_
 ·simp only [push_cast,seval,-Nat.reducePow]
  refine aAc (fun m s=>∃ gs,m=4-gs.length∧PolG gs [] []∧gs.length≤n∧s.env 0=.ptr p 0∧s.env 2=.ptr (nx+2) 0∧s.env 3=.ptr (nx+141) 0∧s.env 4=nmV∧s.env 5=.int .i64 n∧s.env 6=.int .i64 gs.length∧PW T L nx p gs [] [] s.L s.nx) 4 ⟨[],?_⟩ fun m s hJ=>?_
  ·simp only [push_cast,seval,-Nat.reducePow]
   exact ⟨⟨by simp,by simp,by simp,by simp,by simp,by simp⟩,rfl,w1.up (by omega)⟩
  ·obtain ⟨gs,rfl,hG,hgl,j0,j2,j3,j4,j5,j6,w⟩:=hJ
   have lew:=w.le
   by_cases hlt:gs.length<n
   ·have hlt':((gs.length:Nat):Int)<(n:Nat):=by omega
    have hnm:=aQl (l:=aCv) (i:=gs.length) (by simp [aCv]; omega)
    have hnl:(aCv.map V.str).length=3:=rfl
    simp only [push_cast,seval,-Nat.reducePow,j0,j2,j3,j4,j5,j6,nmV,hlt',hnm]
    refine ⟨by omega,bJd (p:=s.nx+145) (ty:=T 22) (cs:=[.str (aCv.getD gs.length []),.nils]) (cs':=[.str (aCv.getD gs.length []),.lst 1 (([]:List (List UInt8)).map .str)]) (by simp only [push_cast,seval,-Nat.reducePow]) (by simp [aAu,aBh,aC9,V.le_refl]) ?_⟩
    generalize hnam:aCv.getD gs.length []=nam
    have wa:=((w.add hp (i:=s.nx+145) (by omega) (some (Blk.box (T 22) [V.str [],V.nils]))).add hp (i:=s.nx+145) (by omega) (some (Blk.box (T 22) [V.str nam,V.nils]))).add hp (i:=s.nx+145) (by omega) (some (Blk.box (T 22) [V.str nam,V.lst 1 (([]:List (List UInt8)).map V.str)]))
    simp only [push_cast,seval,-Nat.reducePow]
    refine aAl (fun s=>∃ ms b,ms.length≤2∧gMem ms∧s.env 0=.ptr p 0∧s.env 2=.ptr (nx+2) 0∧s.env 3=.ptr (nx+141) 0∧s.env 4=nmV∧s.env 5=.int .i64 n∧s.env 6=.int .i64 gs.length∧s.env 7=.ptr b 0∧nx+142≤b∧b<s.nx∧s.L b=some (.box (T 22) [.str nam,.lst 1 (ms.map .str)])∧PW T L nx p gs [] [] s.L s.nx) ?_ ?_
    ·simp only [push_cast,seval,-Nat.reducePow]
     refine aAc (fun m s=>∃ ms b,m=3-ms.length∧ms.length≤2∧gMem ms∧s.env 0=.ptr p 0∧s.env 2=.ptr (nx+2) 0∧s.env 3=.ptr (nx+141) 0∧s.env 4=nmV∧s.env 5=.int .i64 n∧s.env 6=.int .i64 gs.length∧s.env 7=.ptr b 0∧s.env 8=.int .i64 ms.length∧nx+142≤b∧b<s.nx∧s.L b=some (.box (T 22) [.str nam,.lst 1 (ms.map .str)])∧PW T L nx p gs [] [] s.L s.nx) 3 ⟨[],s.nx+145,?_⟩ fun m s hJ=>?_
     ·simp only [push_cast,seval,-Nat.reducePow,j0,j2,j3,j4,j5,j6,nmV]
      exact ⟨fun m hm=>by simp at hm,by omega,by omega,wa.up (by omega)⟩
     ·obtain ⟨ms,b,rfl,hml,hmo,i0,i2,i3,i4,i5,i6,i7,i8,hb1,hb2,hbx,w2⟩:=hJ
      simp only [push_cast,seval,-Nat.reducePow,i0,i2,i3,i4,i5,i6,i7,i8]
      refine aAa (n46 K.toTC w2.tb (by omega) 3 (by omega) (by omega)) ?_
      rintro v L3 n3 ⟨r3,rfl,hr3,hT3⟩
      have le3:=hT3.le
      have w3:=w2.next hp (by omega) hT3
      have hb3:=(hT3.fr b (by omega) (by omega)).trans hbx
      simp only [push_cast,seval,-Nat.reducePow,i0,i2,i3,i4,i5,i6,i7,i8]
      refine aAd (fun g=>?_) (fun g=>?_)
      ·simp only [push_cast,seval,-Nat.reducePow,i0,i2,i3,i4,i5,i6,i7,i8]
       refine aAa (n221 K.toTC K.h221 w3.tb (by omega)) ?_
       rintro v L4 n4 ⟨q4,hq4,rfl,hT4⟩
       have le4:=hT4.le
       have w4:=w3.next hp (by omega) hT4
       have hb4:=(hT4.fr b (by omega) (by omega)).trans hb3
       simp only [push_cast,seval,-Nat.reducePow,i0,i2,i3,i4,i5,i6,i7,i8]
       refine aAl (fun s=>∃ q,q≠[]∧q.length≤6∧s.env 0=.ptr p 0∧s.env 2=.ptr (nx+2) 0∧s.env 3=.ptr (nx+141) 0∧s.env 4=nmV∧s.env 5=.int .i64 n∧s.env 6=.int .i64 gs.length∧s.env 7=.ptr b 0∧s.env 8=.int .i64 ms.length∧s.env 9=.str q∧b<s.nx∧s.L b=some (.box (T 22) [.str nam,.lst 1 (ms.map .str)])∧PW T L nx p gs [] [] s.L s.nx) ?_ ?_
       ·simp only [push_cast,seval,-Nat.reducePow,i0,i2,i3,i4,i5,i6,i7,i8]
        refine aAa (n46 K.toTC w4.tb (by omega) 3 (by omega) (by omega)) ?_
        rintro v L5 n5 ⟨r5,rfl,hr5,hT5⟩
        have le5:=hT5.le
        have w5:=w4.next hp (by omega) hT5
        have hb5:=(hT5.fr b (by omega) (by omega)).trans hb4
        simp only [push_cast,seval,-Nat.reducePow,i0,i2,i3,i4,i5,i6,i7,i8]
        refine aAd (fun g5=>?_) (fun g5=>?_)
        ·simp only [push_cast,seval,-Nat.reducePow,i0,i2,i3,i4,i5,i6,i7,i8]
         refine aAa (n46 K.toTC w5.tb (by omega) n (by omega) (by omega)) ?_
         rintro v L6 n6 ⟨r6,rfl,hr6,hT6⟩
         have le6:=hT6.le
         have w6:=w5.next hp (by omega) hT6
         have hb6:=(hT6.fr b (by omega) (by omega)).trans hb5
         have hn6:=aQl (l:=aCv) (i:=r6) (by simp [aCv]; omega)
         have hl6:=bKd r6
         simp only [push_cast,seval,-Nat.reducePow,i0,i2,i3,i4,i5,i6,i7,i8,nmV,hn6]
         exact ⟨by omega,by omega,_,by simp,by simp only [List.length_cons]; omega,rfl,by omega,hb6,w6.up (by omega)⟩
        ·simp only [push_cast,seval,-Nat.reducePow,i0,i2,i3,i4,i5,i6,i7,i8]
         exact ⟨q4,(bJo hq4).1,(bJo hq4).2,rfl,by omega,hb5,w5.up (by omega)⟩
       ·rintro s5 ⟨q5,hq5,hl5,k0,k2,k3,k4,k5,k6,k7,k8,k9,hb5,hx5,w5⟩
        simp only [push_cast,seval,-Nat.reducePow,k0,k2,k3,k4,k5,k6,k7,k8,k9]
        have lw5:=w5.le
        refine aAl (fun s=>∃ q,q≠[]∧q.length≤6∧s.env 0=.ptr p 0∧s.env 2=.ptr (nx+2) 0∧s.env 3=.ptr (nx+141) 0∧s.env 4=nmV∧s.env 5=.int .i64 n∧s.env 6=.int .i64 gs.length∧s.env 7=.ptr b 0∧s.env 8=.int .i64 ms.length∧s.env 9=.str q∧b<s.nx∧s.L b=some (.box (T 22) [.str nam,.lst 1 (ms.map .str)])∧PW T L nx p gs [] [] s.L s.nx) ?_ ?_
        ·simp only [push_cast,seval,-Nat.reducePow,k0,k2,k3,k4,k5,k6,k7,k8,k9]
         refine aAa (n46 K.toTC w5.tb (by omega) 9 (by omega) (by omega)) ?_
         rintro v L6 n6 ⟨r6,rfl,hr6,hT6⟩
         have le6:=hT6.le
         have w6:=w5.next hp (by omega) hT6
         have hb6:=(hT6.fr b (by omega) (by omega)).trans hx5
         simp only [push_cast,seval,-Nat.reducePow,k0,k2,k3,k4,k5,k6,k7,k8,k9]
         refine aAd (fun g6=>?_) (fun g6=>?_)
         ·simp only [push_cast,seval,-Nat.reducePow,k0,k2,k3,k4,k5,k6,k7,k8,k9]
          exact ⟨_,by simp,by simp,rfl,by omega,hb6,w6.up (by omega)⟩
         ·simp only [push_cast,seval,-Nat.reducePow,k0,k2,k3,k4,k5,k6,k7,k8,k9]
          exact ⟨q5,hq5,hl5,rfl,by omega,hb6,w6.up (by omega)⟩
        ·rintro s6 ⟨q6,hq6,hl6,k0,k2,k3,k4,k5,k6,k7,k8,k9,hb6,hx6,w6⟩
         have hml2:(ms.map V.str).length=ms.length:=List.length_map ..
         have hub:∀ (k:Nat) (x:Option Blk) (M:Heap),upd M (s6.nx+k) x b=M b:=fun k x M=>aAf _ _ _ _ (by omega)
         have hui:∀ (k:Nat) (x:Option Blk) (M:Heap),upd M b x (s6.nx+k)=M (s6.nx+k):=fun k x M=>aAf _ _ _ _ (by omega)
         have hbb:∀ (x:Option Blk) (M:Heap),upd M b x b=x:=fun x M=>aAe _ _ _
         have htk:(ms.map V.str).take ms.length=ms.map V.str:=List.take_of_length_le (by omega)
         have lw6:=w6.le
         simp only [push_cast,seval,-Nat.reducePow,k0,k2,k3,k4,k5,k6,k7,k8,k9,hx6,hml2,hub,htk]
         refine ⟨by omega,by omega,aHv (p:=b) (id:=s6.nx+54) (ty:=T 21) (ty0:=T 22) (sz:=1) (es:=ms.map .str++[.str q6]) (pre:=[.str nam]) (post:=[]) (n:=ms.length+1) (by simp only [push_cast,seval,-Nat.reducePow,hbb]) (by simp only [push_cast,seval,-Nat.reducePow,hui]) (by simp) (by simp [aBc,aBj,V.imms,V.imm]) rfl rfl ?_⟩
         intro s' f2 f3 f4 f5 f6
         have v0:=f5 0 p 0 (by simp only [push_cast,seval,-Nat.reducePow,k0])
         have v2:=f5 2 (nx+2) 0 (by simp only [push_cast,seval,-Nat.reducePow,k2])
         have v3:=f5 3 (nx+141) 0 (by simp only [push_cast,seval,-Nat.reducePow,k3])
         have v7:=f5 7 b 0 (by simp only [push_cast,seval,-Nat.reducePow,k7])
         have v4:s'.env 4=nmV:=(f4 4 (by simp only [push_cast,seval,-Nat.reducePow,k4]; rfl)).trans (by simp only [push_cast,seval,-Nat.reducePow,k4])
         have v5:s'.env 5=.int .i64 n:=(f4 5 (by simp only [push_cast,seval,-Nat.reducePow,k5])).trans (by simp only [push_cast,seval,-Nat.reducePow,k5])
         have v6:s'.env 6=.int .i64 gs.length:=(f4 6 (by simp only [push_cast,seval,-Nat.reducePow,k6])).trans (by simp only [push_cast,seval,-Nat.reducePow,k6])
         have v8:s'.env 8=.int .i64 ms.length:=(f4 8 (by simp only [push_cast,seval,-Nat.reducePow,k8])).trans (by simp only [push_cast,seval,-Nat.reducePow,k8])
         have w7:=((((w6.add hp (i:=s6.nx+51) (by omega) (some (Blk.vec (T 21) 1 (ms.map .str)))).add hp (i:=s6.nx+51) (by omega) none).add hp (i:=s6.nx+54) (by omega) (some (Blk.vec (T 21) 1 (ms.map .str++[.str q6])))).add hp (i:=b) (by omega) (some (.box (T 22) [.str nam,.own (s6.nx+54) 1 0 (ms.length+1)]))).fz f6
         have f2':s'.nx=s6.nx+138:=f2
         simp only [push_cast,seval,-Nat.reducePow,v0,v2,v3,v4,v5,v6,v7,v8]
         refine ⟨by omega,3-(ms.length+1),by omega,ms++[q6],b,by simp,by simp; omega,fun m hm=>?_,rfl,by simp,hb1,by omega,by rw [f3]; simp,w7.up (by omega)⟩
         rcases List.mem_append.1 hm with hm | hm
         ·exact hmo m hm
         ·rw [List.mem_singleton.1 hm]; exact ⟨hq6,hl6⟩
      ·simp only [push_cast,seval,-Nat.reducePow,i0,i2,i3,i4,i5,i6,i7,i8]
       exact ⟨ms,b,hml,hmo,rfl,hb1,by omega,hb3,w3.up (by omega)⟩
    ·rintro s5 ⟨ms,b,hml,hmo,k0,k2,k3,k4,k5,k6,k7,hb1,hb5,hx5,w5⟩
     have lw5:=w5.le
     have hub:∀ (k:Nat) (x:Option Blk) (M:Heap),upd M (s5.nx+k) x b=M b:=fun k x M=>aAf _ _ _ _ (by omega)
     have huq:∀ (k:Nat) (x:Option Blk) (M:Heap),upd M (s5.nx+k) x (nx+141)=M (nx+141):=fun k x M=>aAf _ _ _ _ (by omega)
     have hqi:∀ (k:Nat) (x:Option Blk) (M:Heap),upd M (nx+141) x (s5.nx+k)=M (s5.nx+k):=fun k x M=>aAf _ _ _ _ (by omega)
     have hgl2:=aQ5 gs
     have htk:(grV gs).take gs.length=grV gs:=List.take_of_length_le (by omega)
     have hbx:=w5.bx
     have hqq:∀ (x:Option Blk) (M:Heap),upd M (nx+141) x (nx+141)=x:=fun x M=>aAe _ _ _
     have hiv:(Gro.mk nam ms).v=.agg [.str nam,.lst 1 (ms.map .str)]:=rfl
     have hgv:grV (gs++[⟨nam,ms⟩])=grV gs++[.agg [.str nam,.lst 1 (ms.map .str)]]:=by simp [grV,Gro.v]
     simp only [push_cast,seval,-Nat.reducePow,k0,k2,k3,k4,k5,k6,k7,hx5,hbx,hub,huq,hgl2,htk]
     refine ⟨by omega,by omega,aHv (p:=nx+141) (id:=s5.nx+61) (ty:=T 22) (ty0:=T 16) (sz:=2) (es:=grV gs++[.agg [.str nam,.lst 1 (ms.map .str)]]) (pre:=[]) (post:=[.lst 6 (ruV []),.lst 5 (gdV [])]) (n:=gs.length+1) (by simp only [push_cast,seval,-Nat.reducePow,hqq]) (by simp only [push_cast,seval,-Nat.reducePow,hqi]) (by simp [aQ5]) (by rw [← hgv]; exact aIp _) rfl rfl ?_⟩
     intro s' f2 f3 f4 f5 f6
     have v0:=f5 0 p 0 (by simp only [push_cast,seval,-Nat.reducePow,k0])
     have v2:=f5 2 (nx+2) 0 (by simp only [push_cast,seval,-Nat.reducePow,k2])
     have v3:=f5 3 (nx+141) 0 (by simp only [push_cast,seval,-Nat.reducePow,k3])
     have v4:s'.env 4=nmV:=(f4 4 (by simp only [push_cast,seval,-Nat.reducePow,k4]; rfl)).trans (by simp only [push_cast,seval,-Nat.reducePow,k4])
     have v5:s'.env 5=.int .i64 n:=(f4 5 (by simp only [push_cast,seval,-Nat.reducePow,k5])).trans (by simp only [push_cast,seval,-Nat.reducePow,k5])
     have v6:s'.env 6=.int .i64 gs.length:=(f4 6 (by simp only [push_cast,seval,-Nat.reducePow,k6])).trans (by simp only [push_cast,seval,-Nat.reducePow,k6])
     have w7:=(((w5.add hp (i:=s5.nx+58) (by omega) (some (Blk.vec (T 22) 2 (grV gs)))).add hp (i:=s5.nx+58) (by omega) none).add hp (i:=s5.nx+61) (by omega) (some (Blk.vec (T 22) 2 (grV gs++[.agg [.str nam,.lst 1 (ms.map .str)]])))).fzb (L':=s'.L) (gs':=gs++[⟨nam,ms⟩]) (rs':=[]) (ds':=[]) hp (by rw [f3,hgv]; rfl) (fun b ty cs hb hL hc=>f6 b ty cs (by simp only [push_cast,seval,-Nat.reducePow]; rw [aAf _ _ _ _ hb]; exact hL) hc)
     have f2':s'.nx=s5.nx+138:=f2
     simp only [push_cast,seval,-Nat.reducePow,v0,v2,v3,v4,v5,v6]
     refine ⟨by omega,4-(gs.length+1),by omega,gs++[⟨nam,ms⟩],by simp,⟨by simp; omega,?_,fun g hg=>?_,by simp,by simp,by simp⟩,by simp; omega,rfl,by simp,w7.up (by omega)⟩
     ·rw [List.map_append,hG.gn,List.length_append,List.length_singleton,← hnam]
      exact (aLl _ _ (by simp [aCv]; omega)).symm
     ·rcases List.mem_append.1 hg with hg | hg
      ·exact hG.gm g hg
      ·rw [List.mem_singleton.1 hg]; exact ⟨hml,hmo⟩
   ·have hlt':¬ ((gs.length:Nat):Int)<(n:Nat):=by omega
    simp only [push_cast,seval,-Nat.reducePow,j0,j2,j3,j4,j5,j6,hlt']
    exact ⟨gs,hG,w.up (by omega)⟩
 ·rintro s ⟨gs,hG,j0,j2,j3,j4,j5,w⟩
  have hnl:(aCv.map V.str).length=3:=rfl
  have hbx:=w.bx
  have lew:=w.le
  have huq:∀ (k:Nat) (x:Option Blk) (M:Heap),upd M (s.nx+k) x (nx+141)=M (nx+141):=fun k x M=>aAf _ _ _ _ (by omega)
  have hkl:((aCv.map V.str).take n).length=n:=by rw [List.length_take,hnl]; omega
  obtain ⟨kn,hkd⟩:∃ kn:List (List UInt8),kn=[97,108,108]::[117,115,101,114,115]::aCv.take n:=⟨_,rfl⟩
  have hkn:List.take (2+n) (V.str [97,108,108]::V.str [117,115,101,114,115]::List.take n (aCv.map V.str))=kn.map V.str:=by
   rw [List.take_of_length_le (by simp only [List.length_cons,hkl]; omega),hkd]; simp [List.map_take]
  have hkl1:1≤kn.length:=by rw [hkd]; simp
  have hkl2:kn.length≤100:=by rw [hkd]; simp only [List.length_cons,List.length_take]; simp [aCv]; omega
  have hki:V.imms (List.take n (List.map V.str aCv))=true:=by rw [← List.map_take]; exact aBj _
  simp only [push_cast,seval,-Nat.reducePow,j0,j2,j3,j4,j5,nmV,hnl,hkl,hbx,huq,hkn]
  refine ⟨by omega,by omega,hki,by omega,?_⟩
  have hr0:ruV [(⟨true,1,[97,108,108],⟨1,0,[]⟩⟩:Rul)]=[V.agg [V.bool true,V.int IntKind.i64 1,V.str [97,108,108],V.int IntKind.i64 1,V.int IntKind.i64 0,V.str []]]:=rfl
  refine aAl (fun s=>∃ rs,PolG gs rs []∧s.env 0=.ptr p 0∧s.env 2=.ptr (nx+2) 0∧s.env 3=.ptr (nx+141) 0∧s.env 10=.lst 1 (kn.map .str)∧PW T L nx p gs rs [] s.L s.nx) ?_ ?_
  ·simp only [push_cast,seval,-Nat.reducePow,j0,j2,j3]
   refine aAc (fun m s=>∃ (i:Nat) (rs:List Rul),m=7-i∧i≤6∧rs.length=i+1∧PolG gs rs []∧s.env 0=.ptr p 0∧s.env 2=.ptr (nx+2) 0∧s.env 3=.ptr (nx+141) 0∧s.env 10=.lst 1 (kn.map .str)∧s.env 11=.int .i64 i∧PW T L nx p gs rs [] s.L s.nx) 7 ⟨0,[⟨true,1,[97,108,108],⟨1,0,[]⟩⟩],?_⟩ fun m s hJ=>?_
   ·simp only [push_cast,seval,-Nat.reducePow,j0,j2,j3]
    have wk:=(((w.add hp (i:=s.nx+63) (by omega) (some (Blk.vec (T 21) 1 [V.str [97,108,108],V.str [117,115,101,114,115]]))).add hp (i:=s.nx+63) (by omega) none).add hp (i:=s.nx+67) (by omega) (some (Blk.vec (T 21) 1 (V.str [97,108,108]::V.str [117,115,101,114,115]::List.take n (aCv.map V.str))))).add hp (i:=s.nx+67) (by omega) none |>.set (rs':=[⟨true,1,[97,108,108],⟨1,0,[]⟩⟩]) hp
    rw [hr0] at wk
    exact ⟨⟨hG.gl,hG.gn,hG.gm,by simp,by simp,by simp⟩,wk.up (by omega)⟩
   ·obtain ⟨i,rs,rfl,hi,hrl,hR,i0,i2,i3,i10,i11,w2⟩:=hJ
    have lw2:=w2.le
    simp only [push_cast,seval,-Nat.reducePow,i0,i2,i3,i10,i11]
    refine aAa (n46 K.toTC w2.tb (by omega) 7 (by omega) (by omega)) ?_
    rintro v L3 n3 ⟨r3,rfl,hr3,hT3⟩
    have le3:=hT3.le
    have w3:=w2.next hp (by omega) hT3
    simp only [push_cast,seval,-Nat.reducePow,i0,i2,i3,i10,i11]
    refine aAd (fun g=>?_) (fun g=>?_)
    ·simp only [push_cast,seval,-Nat.reducePow,i0,i2,i3,i10,i11]
     refine aAa (n46 K.toTC w3.tb (by omega) 3 (by omega) (by omega)) ?_
     rintro v L4 n4 ⟨r4,rfl,hr4,hT4⟩
     have le4:=hT4.le
     have w4:=w3.next hp (by omega) hT4
     simp only [push_cast,seval,-Nat.reducePow,i0,i2,i3,i10,i11]
     refine aAa (n46 K.toTC w4.tb (by omega) 5 (by omega) (by omega)) ?_
     rintro v L5 n5 ⟨r5,rfl,hr5,hT5⟩
     have le5:=hT5.le
     have w5:=w4.next hp (by omega) hT5
     simp only [push_cast,seval,-Nat.reducePow,i0,i2,i3,i10,i11]
     refine ⟨by omega,aAa (m47 K.toTC w5.tb (by omega) kn hkl1 hkl2) ?_⟩
     rintro v L6 n6 ⟨q6,hq6,rfl,hT6⟩
     have le6:=hT6.le
     have w6:=w5.next hp (by omega) hT6
     simp only [push_cast,seval,-Nat.reducePow,i0,i2,i3,i10,i11]
     have wb:=((w6.add hp (i:=n6+12) (by omega) (some (Blk.box (T 19) [V.bool false,V.int IntKind.i64 0,V.str [],V.int IntKind.i64 0,V.int IntKind.i64 0,V.str []]))).add hp (i:=n6+12) (by omega) (some (Blk.box (T 19) [V.bool (decide ((0:Int)<(r4:Nat))),V.int IntKind.i64 (1+(r5:Nat)),V.str q6,V.int IntKind.i64 0,V.int IntKind.i64 0,V.str []])))
     refine aAl (fun s=>∃ (r:Rul) (b:Nat),r.sc.n∈[]::aJf∧nx+142≤b∧b<s.nx∧s.env 0=.ptr p 0∧s.env 2=.ptr (nx+2) 0∧s.env 3=.ptr (nx+141) 0∧s.env 10=.lst 1 (kn.map .str)∧s.env 11=.int .i64 i∧s.env 12=.ptr b 0∧s.L b=some (.box (T 19) r.cs)∧PW T L nx p gs rs [] s.L s.nx) ?_ ?_
     ·simp only [push_cast,seval,-Nat.reducePow,i0,i2,i3,i10,i11]
      refine aAa (n46 K.toTC wb.tb (by omega) 3 (by omega) (by omega)) ?_
      rintro v L7 n7 ⟨r7,rfl,hr7,hT7⟩
      have le7:=hT7.le
      have w7:=wb.next hp (by omega) hT7
      have hx7:L7 (n6+12)=_:=(hT7.fr (n6+12) (by omega) (by omega)).trans (aAe _ _ _)
      have hu7:∀ (x:Option Blk) (M:Heap),upd M (n6+12) x (n6+12)=x:=fun x M=>aAe _ _ _
      simp only [push_cast,seval,-Nat.reducePow,i0,i2,i3,i10,i11]
      refine aAd (fun g7=>?_) (fun g7=>?_)
      ·simp only [push_cast,seval,-Nat.reducePow,i0,i2,i3,i10,i11,hx7,hu7]
       exact ⟨⟨decide ((0:Int)<(r4:Nat)),1+(r5:Nat),q6,⟨1,0,[]⟩⟩,n6+12,by simp,by omega,by omega,rfl,hu7 _ _,(w7.add hp (by omega) _).up (by omega)⟩
      ·simp only [push_cast,seval,-Nat.reducePow,i0,i2,i3,i10,i11]
       refine aAd (fun g8=>?_) (fun g8=>?_)
       ·simp only [push_cast,seval,-Nat.reducePow,i0,i2,i3,i10,i11]
        refine aAa (n46 K.toTC w7.tb (by omega) 6 (by omega) (by omega)) ?_
        rintro v L8 n8 ⟨r8,rfl,hr8,hT8⟩
        have le8:=hT8.le
        have w8:=w7.next hp (by omega) hT8
        have hx8:=(hT8.fr (n6+12) (by omega) (by omega)).trans hx7
        simp only [push_cast,seval,-Nat.reducePow,i0,i2,i3,i10,i11,hx8,hu7]
        exact ⟨⟨decide ((0:Int)<(r4:Nat)),1+(r5:Nat),q6,⟨2,r8,[]⟩⟩,n6+12,by simp,by omega,by omega,rfl,hu7 _ _,(w8.add hp (by omega) _).up (by omega)⟩
       ·simp only [push_cast,seval,-Nat.reducePow,i0,i2,i3,i10,i11]
        refine aAa (n213 K.toTC K.h213 w7.tb (by omega)) ?_
        rintro v L8 n8 ⟨sp8,q8,hsp8,hq8,rfl,hT8⟩
        have le8:=hT8.le
        have w8:=w7.next hp (by omega) hT8
        have hx8:=(hT8.fr (n6+12) (by omega) (by omega)).trans hx7
        simp only [push_cast,seval,-Nat.reducePow,i0,i2,i3,i10,i11,hx8,hu7,ttV]
        exact ⟨⟨decide ((0:Int)<(r4:Nat)),1+(r5:Nat),q6,⟨3,sp8,q8⟩⟩,n6+12,List.mem_cons_of_mem _ hq8,by omega,by omega,rfl,hu7 _ _,(w8.add hp (by omega) _).up (by omega)⟩
     ·rintro s5 ⟨r,b,hrn,hb1,hb2,k0,k2,k3,k10,k11,k12,hx5,w5⟩
      have lw5:=w5.le
      have hub:∀ (k:Nat) (x:Option Blk) (M:Heap),upd M (s5.nx+k) x b=M b:=fun k x M=>aAf _ _ _ _ (by omega)
      have huq:∀ (k:Nat) (x:Option Blk) (M:Heap),upd M (s5.nx+k) x (nx+141)=M (nx+141):=fun k x M=>aAf _ _ _ _ (by omega)
      have hqi:∀ (k:Nat) (x:Option Blk) (M:Heap),upd M (nx+141) x (s5.nx+k)=M (s5.nx+k):=fun k x M=>aAf _ _ _ _ (by omega)
      have hrl2:=aR2 rs
      have htk:(ruV rs).take rs.length=ruV rs:=List.take_of_length_le (by omega)
      have hbx:=w5.bx
      have hqq:∀ (x:Option Blk) (M:Heap),upd M (nx+141) x (nx+141)=x:=fun x M=>aAe _ _ _
      have hrv:ruV (rs++[r])=ruV rs++[.agg r.cs]:=by simp [ruV,Rul.v,Rul.cs]
      simp only [Rul.cs] at hx5 hrv
      simp only [push_cast,seval,-Nat.reducePow,k0,k2,k3,k10,k11,k12,hx5,hbx,hub,huq,hrl2,htk]
      refine ⟨by omega,by omega,aHv (p:=nx+141) (id:=s5.nx+110) (ty:=T 19) (ty0:=T 16) (sz:=6) (es:=ruV (rs++[r])) (pre:=[.lst 2 (grV gs)]) (post:=[.lst 5 (gdV [])]) (n:=rs.length+1) (by simp only [push_cast,seval,-Nat.reducePow,hqq]) (by simp only [push_cast,seval,-Nat.reducePow,hqi,hrv]) (by simp [aR2]) (aE7 _) (by simp [V.imms,V.imm,aIp]) rfl ?_⟩
      intro s' f2 f3 f4 f5 f6
      have v0:=f5 0 p 0 (by simp only [push_cast,seval,-Nat.reducePow,k0])
      have v2:=f5 2 (nx+2) 0 (by simp only [push_cast,seval,-Nat.reducePow,k2])
      have v3:=f5 3 (nx+141) 0 (by simp only [push_cast,seval,-Nat.reducePow,k3])
      have v10:s'.env 10=.lst 1 (kn.map .str):=(f4 10 (by simp only [push_cast,seval,-Nat.reducePow,k10]; exact aBj _)).trans (by simp only [push_cast,seval,-Nat.reducePow,k10])
      have v11:s'.env 11=.int .i64 i:=(f4 11 (by simp only [push_cast,seval,-Nat.reducePow,k11])).trans (by simp only [push_cast,seval,-Nat.reducePow,k11])
      have w7:=(((w5.add hp (i:=s5.nx+107) (by omega) (some (Blk.vec (T 19) 6 (ruV rs)))).add hp (i:=s5.nx+107) (by omega) none).add hp (i:=s5.nx+110) (by omega) (some (Blk.vec (T 19) 6 (ruV (rs++[r]))))).fzb (L':=s'.L) (gs':=gs) (rs':=rs++[r]) (ds':=[]) hp (by rw [f3]; rfl) (fun b ty cs hb hL hc=>f6 b ty cs (by simp only [push_cast,seval,-Nat.reducePow]; rw [aAf _ _ _ _ hb]; rw [hrv] at hL; exact hL) hc)
      have f2':s'.nx=s5.nx+138:=f2
      simp only [push_cast,seval,-Nat.reducePow,v0,v2,v3,v10,v11]
      refine ⟨by omega,7-(i+1),by omega,i+1,rs++[r],rfl,by omega,by simp; omega,⟨hR.gl,hR.gn,hR.gm,by simp; omega,fun x hx=>?_,hR.dl⟩,by simp,w7.up (by omega)⟩
      rcases List.mem_append.1 hx with hx | hx
      ·exact hR.rn x hx
      ·rw [List.mem_singleton.1 hx]; exact hrn
    ·simp only [push_cast,seval,-Nat.reducePow,i0,i2,i3,i10,i11]
     exact ⟨rs,hR,w3.up (by omega)⟩
  ·rintro s2 ⟨rs,hR,k0,k2,k3,k10,w2⟩
   simp only [push_cast,seval,-Nat.reducePow,k0,k2,k3,k10]
   refine aAl (fun s=>∃ ds,PolG gs rs ds∧s.env 2=.ptr (nx+2) 0∧s.env 3=.ptr (nx+141) 0∧PW T L nx p gs rs ds s.L s.nx) ?_ ?_
   ·simp only [push_cast,seval,-Nat.reducePow,k0,k2,k3,k10]
    refine aAc (fun m s=>∃ (i:Nat) (ds:List Grd),m=4-i∧i≤3∧ds.length=i∧PolG gs rs ds∧s.env 0=.ptr p 0∧s.env 2=.ptr (nx+2) 0∧s.env 3=.ptr (nx+141) 0∧s.env 10=.lst 1 (kn.map .str)∧s.env 13=.int .i64 i∧PW T L nx p gs rs ds s.L s.nx) 4 ⟨0,[],?_⟩ fun m s hJ=>?_
    ·simp only [push_cast,seval,-Nat.reducePow,k0,k2,k3,k10]
     exact ⟨hR,w2.up (by omega)⟩
    ·obtain ⟨i,ds,rfl,hi,hdl,hD,i0,i2,i3,i10,i13,w2⟩:=hJ
     have lw2:=w2.le
     simp only [push_cast,seval,-Nat.reducePow,i0,i2,i3,i10,i13]
     refine aAa (n46 K.toTC w2.tb (by omega) 4 (by omega) (by omega)) ?_
     rintro v L3 n3 ⟨r3,rfl,hr3,hT3⟩
     have le3:=hT3.le
     have w3:=w2.next hp (by omega) hT3
     simp only [push_cast,seval,-Nat.reducePow,i0,i2,i3,i10,i13]
     refine aAd (fun g=>?_) (fun g=>?_)
     ·simp only [push_cast,seval,-Nat.reducePow,i0,i2,i3,i10,i13]
      refine aAa (n46 K.toTC w3.tb (by omega) 3 (by omega) (by omega)) ?_
      rintro v L4 n4 ⟨r4,rfl,hr4,hT4⟩
      have le4:=hT4.le
      have w4:=w3.next hp (by omega) hT4
      simp only [push_cast,seval,-Nat.reducePow,i0,i2,i3,i10,i13]
      refine aAa (m47 K.toTC w4.tb (by omega) kn hkl1 hkl2) ?_
      rintro v L5 n5 ⟨q5,hq5,rfl,hT5⟩
      have le5:=hT5.le
      have w5:=w4.next hp (by omega) hT5
      simp only [push_cast,seval,-Nat.reducePow,i0,i2,i3,i10,i13]
      refine aAa (n213 K.toTC K.h213 w5.tb (by omega)) ?_
      rintro v L6 n6 ⟨sp6,q6,hsp6,hq6,rfl,hT6⟩
      have le6:=hT6.le
      have w6:=w5.next hp (by omega) hT6
      simp only [push_cast,seval,-Nat.reducePow,i0,i2,i3,i10,i13]
      refine aAa (m47 K.toTC w6.tb (by omega) [[],[115],[116],[97,32,98]] (by simp) (by simp)) ?_
      rintro v L7 n7 ⟨q7,hq7,rfl,hT7⟩
      have le7:=hT7.le
      have w7:=w6.next hp (by omega) hT7
      have lw7:=w7.le
      have hub:∀ (k:Nat) (x:Option Blk) (M:Heap),upd M (n7+138+k) x (n7+14)=M (n7+14):=fun k x M=>aAf _ _ _ _ (by omega)
      have hbb:∀ (x:Option Blk) (M:Heap),upd M (n7+14) x (n7+14)=x:=fun x M=>aAe _ _ _
      have hbi:∀ (k:Nat) (x:Option Blk) (M:Heap),upd M (n7+14) x (n7+138+k)=M (n7+138+k):=fun k x M=>aAf _ _ _ _ (by omega)
      have huq:∀ (k:Nat) (x:Option Blk) (M:Heap),upd M (n7+k) x (nx+141)=M (nx+141):=fun k x M=>aAf _ _ _ _ (by omega)
      have hqi:∀ (k:Nat) (x:Option Blk) (M:Heap),upd M (nx+141) x (n7+k)=M (n7+k):=fun k x M=>aAf _ _ _ _ (by omega)
      have hdl2:=aJ4 ds
      have htk:(gdV ds).take ds.length=gdV ds:=List.take_of_length_le (by omega)
      have hbx:=w7.bx
      have hqq:∀ (x:Option Blk) (M:Heap),upd M (nx+141) x (nx+141)=x:=fun x M=>aAe _ _ _
      simp only [push_cast,seval,-Nat.reducePow,i0,i2,i3,i10,i13,ttV,hbb,hbx,hub,huq,hdl2,htk]
      have hdv:gdV (ds++[(⟨decide ((r4:Int)=0),q5,sp6,q6,q7⟩:Grd)])=gdV ds++[.agg [.bool (decide ((r4:Int)=0)),.str q5,.int .i64 sp6,.str q6,.str q7]]:=by simp [gdV,Grd.v]
      refine ⟨by omega,by omega,aHv (p:=nx+141) (id:=n7+273) (ty:=T 20) (ty0:=T 16) (sz:=5) (es:=gdV (ds++[(⟨decide ((r4:Int)=0),q5,sp6,q6,q7⟩:Grd)])) (pre:=[.lst 2 (grV gs),.lst 6 (ruV rs)]) (post:=[]) (n:=ds.length+1) (by simp only [push_cast,seval,-Nat.reducePow,hqq]) (by simp only [push_cast,seval,-Nat.reducePow,hqi,hdv]) (by simp [aJ4]) (aIv _) (by simp [V.imms,V.imm,aIp,aE7]) rfl ?_⟩
      intro s' f2 f3 f4 f5 f6
      have v0:=f5 0 p 0 (by simp only [push_cast,seval,-Nat.reducePow,i0])
      have v2:=f5 2 (nx+2) 0 (by simp only [push_cast,seval,-Nat.reducePow,i2])
      have v3:=f5 3 (nx+141) 0 (by simp only [push_cast,seval,-Nat.reducePow,i3])
      have v10:s'.env 10=.lst 1 (kn.map .str):=(f4 10 (by simp only [push_cast,seval,-Nat.reducePow,i10]; exact aBj _)).trans (by simp only [push_cast,seval,-Nat.reducePow,i10])
      have v13:s'.env 13=.int .i64 i:=(f4 13 (by simp only [push_cast,seval,-Nat.reducePow,i13])).trans (by simp only [push_cast,seval,-Nat.reducePow,i13])
      have w8:=(((((w7.add hp (i:=n7+14) (by omega) (some (Blk.box (T 20) [.bool false,.str [],.int .i64 0,.str [],.str []]))).add hp (i:=n7+14) (by omega) (some (Blk.box (T 20) [.bool (decide ((r4:Int)=0)),.str q5,.int .i64 sp6,.str q6,.str q7]))).add hp (i:=n7+270) (by omega) (some (Blk.vec (T 20) 5 (gdV ds)))).add hp (i:=n7+270) (by omega) none).add hp (i:=n7+273) (by omega) (some (Blk.vec (T 20) 5 (gdV (ds++[(⟨decide ((r4:Int)=0),q5,sp6,q6,q7⟩:Grd)]))))).fzb (L':=s'.L) (gs':=gs) (rs':=rs) (ds':=ds++[(⟨decide ((r4:Int)=0),q5,sp6,q6,q7⟩:Grd)]) hp (by rw [f3]; rfl) (fun b ty cs hb hL hc=>f6 b ty cs (by simp only [push_cast,seval,-Nat.reducePow]; rw [aAf _ _ _ _ hb]; rw [hdv] at hL; exact hL) hc)
      have f2':s'.nx=n7+276:=f2
      simp only [push_cast,seval,-Nat.reducePow,v0,v2,v3,v10,v13]
      exact ⟨by omega,4-(i+1),by omega,i+1,ds++[(⟨decide ((r4:Int)=0),q5,sp6,q6,q7⟩:Grd)],rfl,by omega,by simp; omega,⟨hD.gl,hD.gn,hD.gm,hD.rl,hD.rn,by simp; omega⟩,by simp,w8.up (by omega)⟩
     ·simp only [push_cast,seval,-Nat.reducePow,i0,i2,i3,i10,i13]
      exact ⟨ds,hD,w3.up (by omega)⟩
   ·rintro s3 ⟨ds,hD,k2,k3,w3⟩
    have hbx:=w3.bx
    have hrb:=w3.rb
    have lw3:=w3.le
    simp only [push_cast,seval,-Nat.reducePow,k2,k3,hbx,hrb]
    exact ⟨by omega,gs,rs,ds,hD,rfl,by omega,w3.tb.add (by omega),fun b ty cs hb hbp hL hc=>by rw [aAf _ _ _ _ (by omega)]; exact w3.fr b ty cs hb hbp hL hc⟩
end Go.Ab
namespace Go.Ab
variable {P:Program} {F T:Nat→Nat}
theorem n39f (hf:Is39 P F T) {L:Heap} {nx:Nat} (es:List V) (hi:V.imms es=true) (hes:∀ e,e∈es→∃ m,e=.int .i64 m) (hl:es.length<2^63) :
 ECall P (F 39) [.lst 1 es] L nx (fun v L' nx'=>∃ p,v=.ptr p 0∧p<nx'∧nx≤p∧TB T L' p∧∀ b,b<nx→L' b=L b):=by
 refine aAw [] hf (by simp) ?_
 simp only [c39,push_cast,seval,-Nat.reducePow]
 exact ⟨by omega,nx+11,rfl,by omega,by omega,⟨es,0,aAe _ _ _,hes,Nat.zero_le _,hl⟩,fun b hb=>aAf _ _ _ _ (by omega)⟩
end Go.Ab
