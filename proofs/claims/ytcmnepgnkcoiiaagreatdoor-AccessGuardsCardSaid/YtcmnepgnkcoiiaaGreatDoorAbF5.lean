/- Several texts of one kind, merged. No condition. -/
import Derived.Test.YtcmnepgnkcoiiaaGreatDoorAbF2
import Derived.Test.YtcmnepgnkcoiiaaGreatDoorAbD1
import Derived.Test.YtcmnepgnkcoiiaaGreatDoorAbG14
import Derived.Test.YtcmnepgnkcoiiaaGreatDoorAbR3
set_option linter.unusedSimpArgs false
set_option linter.unusedVariables false
namespace Go.Ab
variable {P:Program} {F T:Nat→Nat}
theorem aXp (sec s:List UInt8):aIk sec s s=false:=by simp [aIk]
theorem aS9 (g:List (List UInt8)) (sp:Int) (n s:List UInt8):∀ (ds:List Grd) (o:Int),chgF g sp n s s ds o=o
 | [],o=>rfl
 | d::r,o=>by
   have h:hitG g sp n s s d=false:=by simp [hitG,aXp]
   rw [chgF,h]
   exact aS9 g sp n s r o
theorem law214 (hf:bIw P F T) (K:TC3 P F T) (K2:TC2 P F T) (h39:Is39 P F T) (C:ChgC P F T) (G:RGrC P F T) (kn:PTr P (F 176) [] (.bool true)) (es:List V) (hi:V.imms es=true) (hes:∀ e,e∈es→∃ m,e=.int .i64 m) :
 PTr P (F 214) [.lst 1 es] (.bool true):=by
 refine bGi fun hl=>?_
 refine ptrC [] hf (by simp [hi]) rfl ?_
 simp only [c214,push_cast,seval,-Nat.reducePow]
 refine aAa (n39f h39 es hi hes hl) ?_
 rintro v L0 n0 ⟨p,rfl,hp,hn,hT,hfr⟩
 refine aAa (n207 K hT (by omega)) ?_
 rintro v L1 n1 ⟨gs,rs,ds,hG,rfl,hn1,hT1,hfr1⟩
 refine aAa (n213 K.toTC K.h213 hT1 (by omega)) ?_
 rintro v L2 n2 ⟨sp,q,hsp,hq,rfl,hT2⟩
 have le2:=hT2.le
 have hgi:=aIp gs
 have hri:=aE7 rs
 have hdi:=aIv ds
 simp only [push_cast,seval,-Nat.reducePow,polV,ttV,hgi,hri,hdi]
 have w2:=((((hT2.tb.add (i:=n2+4) (x:=some (Blk.box (T 16) [.nils,.nils,.nils])) (by omega)).add (i:=n2+5) (x:=some (Blk.box (T 17) [.int .i64 0,.str []])) (by omega)).add (i:=n2+4) (x:=some (Blk.box (T 16) [.lst 2 (grV gs),.lst 6 (ruV rs),.lst 5 (gdV ds)])) (by omega)).add (i:=n2+5) (x:=some (Blk.box (T 17) [.int .i64 sp,.str q])) (by omega)).add (i:=n2+4) (x:=none) (by omega)
 refine aAa (n208 K.toTC K.h208 w2 (by omega)) ?_
 rintro v L3 n3 ⟨u,hu,rfl,hT3⟩
 have le3:=hT3.le
 have hx3:L3 (n2+5)=some (.box (T 17) [.int .i64 sp,.str q]):=by
  rw [hT3.fr _ (by omega) (by omega),aAf _ _ _ _ (by omega)]; exact aAe _ _ _
 have hgl:=bCd u gs
 have hg3:=hG.gl
 have hd3:=hG.dl
 have hql:=bIl hq
 have hsi:=aBj (grpF u gs)
 refine aAb (bHj G hG u) (by simp only [push_cast,seval,-Nat.reducePow,hgi,hri,hdi]) (by simp only [V.imm]; exact hsi) ?_
 refine aAa (n40 K2 1 (by omega) hT3.tb (by omega)) ?_
 rintro v L4 n4 ⟨old,rfl,hol,hT4⟩
 have le4:=hT4.le
 have hx4:=(hT4.fr (n2+5) (by omega) (by omega)).trans hx3
 refine aAa (n40 K2 1 (by omega) hT4.tb (by omega)) ?_
 rintro v L5 n5 ⟨now,rfl,hnl,hT5⟩
 have le5:=hT5.le
 have hx5:=(hT5.fr (n2+5) (by omega) (by omega)).trans hx4
 have hb:bHc 1=7400:=rfl
 rw [hb] at hol hnl
 have hdl:=aJ4 ds
 refine aAl (fun s=>∃ (sp:Int) (t:List UInt8),s.env 4=.cptr [.lst 2 (grV gs),.lst 6 (ruV rs),.lst 5 (gdV ds)]∧s.env 5=.ptr (n2+5) 0∧s.L (n2+5)=some (.box (T 17) [.int .i64 sp,.str t])∧s.env 6=.lst 1 ((grpF u gs).map .str)∧s.env 7=.str old∧s.env 8=.str now) ?_ ?_
 ·cases ds with
  | nil =>
    simp only [push_cast,seval,-Nat.reducePow,gdV,hx5]
    exact ⟨_,_,rfl⟩
  | cons d r =>
    have hpos:(0:Int)<(((List.map Grd.v r).length:Nat):Int)+1:=by omega
    simp only [push_cast,seval,-Nat.reducePow,gdV,hx5,hpos,Grd.v]
    exact ⟨by omega,_,_,rfl⟩
 ·rintro s ⟨sp,t,j4,j5,jB,j6,j7,j8⟩
  have c1:=bEf C (g:=grpF u gs) (by omega) (grV gs) rs ds hgi (by omega) sp t old now (by omega) (by omega)
  have c2:=bHb C (g:=grpF u gs) (by omega) (grV gs) rs ds hgi (by omega) sp t old now (by omega) (by omega)
  have c3:=bEf C (g:=grpF u gs) (by omega) (grV gs) rs ds hgi (by omega) sp t old old (by omega) (by omega)
  rw [aS9] at c3
  simp only [polV,ttV] at c1 c2 c3
  simp only [push_cast,seval,-Nat.reducePow,j4,j5,jB,j6,j7,j8]
  refine aAb c1 (by simp only [push_cast,seval,-Nat.reducePow,hgi,hri,hdi,hsi]) (by simp only [push_cast,seval,-Nat.reducePow]) ?_
  simp only [push_cast,seval,-Nat.reducePow,j4,j5,jB,j6,j7,j8]
  refine aAb c2 (by simp only [push_cast,seval,-Nat.reducePow,hgi,hri,hdi,hsi]) (by simp only [push_cast,seval,-Nat.reducePow]) ?_
  simp only [push_cast,seval,-Nat.reducePow,j4,j5,jB,j6,j7,j8]
  refine aAb c3 (by simp only [push_cast,seval,-Nat.reducePow,hgi,hri,hdi,hsi]) (by simp only [push_cast,seval,-Nat.reducePow]) ?_
  simp only [push_cast,seval,-Nat.reducePow]
  refine aAb kn (by simp only [push_cast,seval,-Nat.reducePow]) (by simp only [push_cast,seval,-Nat.reducePow]) ?_
  simp only [push_cast,seval,-Nat.reducePow,view]
end Go.Ab
namespace Go.Ab
open Go.Lib
end Go.Ab
namespace Go.Ab
open Go.Lib
variable {P:Program} {F T:Nat→Nat}
end Go.Ab
