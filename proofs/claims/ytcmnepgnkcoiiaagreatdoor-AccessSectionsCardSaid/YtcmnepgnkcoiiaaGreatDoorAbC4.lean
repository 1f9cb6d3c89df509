/- Several texts of one kind, merged. No condition. -/
import Derived.Test.YtcmnepgnkcoiiaaGreatDoorAbC2
import Derived.Test.YtcmnepgnkcoiiaaGreatDoorAbC3
import Derived.Test.YtcmnepgnkcoiiaaGreatDoorAbC1
import Derived.Test.YtcmnepgnkcoiiaaGreatDoorAbK4
set_option linter.unusedSimpArgs false
set_option linter.unusedVariables false
namespace Go.Ab
variable {P:Program} {F T:Nat→Nat}
open Go.Lib
theorem bMs (hf:aZ1 P F T):PTr P (F 191) [.str []] (.bool false):=by
 refine ptrC [] hf (by simp) rfl ?_
 simp only [c191,push_cast,seval,-Nat.reducePow,view]
set_option maxRecDepth 20000 in
theorem bKo (hf:aU9 P F T):PTr P (F 240) [.int .u64 1] (.int .i64 1):=by
 refine ptrC [] hf (by simp) rfl ?_
 simp only [c240,push_cast,seval,-Nat.reducePow,view]
 done
theorem bK6 (hf:aXb P F T) (h240:aU9 P F T):PTr P (F 227) [.int .u64 1] (.int .i64 1):=by
 refine ptrC [] hf (by simp) rfl ?_
 simp only [c227,push_cast,seval,-Nat.reducePow]
 refine aAb (bKo h240) (by simp only [push_cast,seval,-Nat.reducePow]) (by simp only [push_cast,seval,-Nat.reducePow]) ?_
 simp only [push_cast,seval,-Nat.reducePow,view]
theorem bK7 (hf:aUb P F T) (id:Nat) (L:Heap) (nx:Nat):ECall P (F 230) [.own id 1 0 1,.int .i64 0,.int .i64 1] L nx fun r L' nx'=>nx≤nx'∧∀ b,b<nx→L' b=L b:=by
 refine aAy [] hf (by simp) ?_
 simp only [c230,push_cast,seval,-Nat.reducePow]
 refine aAc (fun m s1=>s1.env 6=.int .i64 1∧s1.env 2=.int .i64 1∧s1.L=L∧nx≤s1.nx) 0 ?_ fun m s1 hJ=>?_
 ·simp only [push_cast,seval,-Nat.reducePow]
  omega
 ·obtain ⟨j6,j2,jL,jn⟩:=hJ
  simp only [push_cast,seval,-Nat.reducePow,j6,j2,jL]
  exact ⟨by omega,by omega,fun _ _=>trivial⟩
theorem bK5 (hf:aWy P F T) (h230:aUb P F T) (id:Nat) (L:Heap) (nx:Nat):ECall P (F 228) [.own id 1 0 1,.int .i64 0,.int .i64 1,.int .i64 1] L nx fun r L' nx'=>nx≤nx'∧∀ b,b<nx→L' b=L b:=by
 refine aAy [] hf (by simp) ?_
 simp only [c228,push_cast,seval,-Nat.reducePow]
 refine aAc (fun m s1=>s1.env 0=.own id 1 0 1∧s1.env 1=.int .i64 0∧s1.env 2=.int .i64 1∧s1.L=L∧nx≤s1.nx) 0 ?_ fun m s1 hJ=>?_
 ·simp only [push_cast,seval,-Nat.reducePow]
  omega
 ·obtain ⟨j0,j1,j2,jL,jn⟩:=hJ
  simp only [push_cast,seval,-Nat.reducePow,j0,j1,j2,jL]
  refine aAa (bK7 h230 id _ _) fun r L1 n1 hp=>?_
  obtain ⟨p1,p2⟩:=hp
  exact ⟨by omega,by omega,fun b hb=>p2 b (by omega)⟩
theorem bL1 (hf:bCc P F T) (h227:aXb P F T) (h240:aU9 P F T) (h228:aWy P F T) (h230:aUb P F T) (id:Nat) (L:Heap) (nx:Nat):ECall P (F 226) [.own id 1 0 1] L nx fun r L' nx'=>nx≤nx'∧∀ b,b<nx→L' b=L b:=by
 refine aAy [] hf (by simp) ?_
 simp only [c226,push_cast,seval,-Nat.reducePow]
 refine aAb (bK6 h227 h240) (by simp only [push_cast,seval,-Nat.reducePow]) (by simp only [push_cast,seval,-Nat.reducePow]) ?_
 simp only [push_cast,seval,-Nat.reducePow]
 refine aAa (bK5 h228 h230 id _ _) fun r L1 n1 hp=>?_
 obtain ⟨p1,p2⟩:=hp
 exact ⟨by omega,by omega,fun b hb=>p2 b (by omega)⟩
theorem bJ9 (hf:bGh P F T) (h191:aZ1 P F T) (h226:bCc P F T) (h227:aXb P F T) (h240:aU9 P F T) (h228:aWy P F T) (h230:aUb P F T) (rv:List V) (hr:V.imms rv=true) :
 PTr P (F 180) [.agg [.nils,.lst 6 rv,.nils],.str []] (.lst 1 [.str [97,108,108]]):=by
 refine ptrC [] hf (by simp) rfl ?_
 simp only [c180,push_cast,seval,-Nat.reducePow,hr]
 refine aAb (bMs h191) (by simp only [push_cast,seval,-Nat.reducePow]) (by simp only [push_cast,seval,-Nat.reducePow]) ?_
 simp only [push_cast,seval,-Nat.reducePow]
 refine aAq (fun s1=>s1.env 2=.ptr 2 0∧s1.L 2=some (.box (T 16) [.nils,.lst 6 rv,.nils])∧s1.env 5=.ptr 47 0∧s1.L 47=some (.box (T 26) [.own 52 1 0 1])∧s1.L 52=some (.vec (T 21) 1 [.str [97,108,108]])∧100≤s1.nx) ?_ ?_
 ·simp only [push_cast,seval,-Nat.reducePow]
  done
 rintro s0 ⟨y2,yB,y5,yC,yV,yn⟩
 simp only [push_cast,seval,-Nat.reducePow,y2,yB,y5,yC,yV]
 refine aAc (fun m s1=>m≤1∧s1.env 7=.bool (decide (m=1))∧s1.env 2=.ptr 2 0∧s1.L 2=some (.box (T 16) [.nils,.lst 6 rv,.nils])∧s1.env 5=.ptr 47 0∧s1.L 47=some (.box (T 26) [.own 52 1 0 1])∧s1.L 52=some (.vec (T 21) 1 [.str [97,108,108]])∧100≤s1.nx) 1 ?_ fun m s1 hJ=>?_
 ·simp only [push_cast,seval,-Nat.reducePow,y2,yB,y5,yC,yV]
  omega
 ·obtain ⟨hm,j7,j2,jB,j5,jC,jV,jn⟩:=hJ
  by_cases h:m=1
  ·subst h
   simp only [push_cast,seval,-Nat.reducePow,j7,j2,jB,j5,jC,jV]
   refine aAc (fun m s2=>s2.env 7=.bool false∧s2.env 20=.int .i64 0∧s2.env 21=.int .i64 0∧s2.env 2=.ptr 2 0∧s2.L 2=some (.box (T 16) [.nils,.lst 6 rv,.nils])∧s2.env 5=.ptr 47 0∧s2.L 47=some (.box (T 26) [.own 52 1 0 1])∧s2.L 52=some (.vec (T 21) 1 [.str [97,108,108]])∧100≤s2.nx) 0 ?_ fun m s2 hK=>?_
   ·simp only [push_cast,seval,-Nat.reducePow,j7,j2,jB,j5,jC,jV]
    done
   ·obtain ⟨k7,k20,k21,k2,kB,k5,kC,kV,kn⟩:=hK
    simp only [push_cast,seval,-Nat.reducePow,k7,k20,k21,k2,kB,k5,kC,kV]
    exact ⟨0,by omega,by omega,rfl,by omega⟩
  ·have h0:m=0:=by omega
   subst h0
   simp only [push_cast,seval,-Nat.reducePow,j7,j2,jB,j5,jC,jV]
   refine aAa (bL1 h226 h227 h240 h228 h230 52 _ _) fun r L1 n1 hp=>?_
   obtain ⟨p1,p2⟩:=hp
   have b1:L1 47=some (.box (T 26) [.own 52 1 0 1]):=by rw [p2 47 (by omega)]; exact jC
   have b2:L1 52=some (.vec (T 21) 1 [.str [97,108,108]]):=by rw [p2 52 (by omega)]; exact jV
   simp only [push_cast,seval,-Nat.reducePow,j5,b1,b2]
   exact aKg b2 rfl rfl
theorem bKn (hf:aZj P F T) (rv:List V) (hr:V.imms rv=true) (sp:Int) (s old now:List UInt8) :
 PTr P (F 179) [.agg [.nils,.lst 6 rv,.nils],.nils,ttV sp s,.str old,.str now] (.int .i64 1):=by
 refine ptrC [] hf (by simp) rfl ?_
 simp only [c179,push_cast,seval,-Nat.reducePow,hr,ttV]
 refine aAc (fun m s1=>s1.env 11=.int .i64 1∧s1.env 16=.int .i64 0∧s1.env 17=.int .i64 0) 0 ?_ fun m s1 hJ=>?_
 ·simp only [push_cast,seval,-Nat.reducePow]
 ·obtain ⟨j0,j1,j2⟩:=hJ
  simp only [push_cast,seval,-Nat.reducePow,j0,j1,j2,view]
end Go.Ab
namespace Go.Ab
variable {P:Program} {F T:Nat→Nat}
open Go.Lib
structure MayC (P:Program) (F T:Nat→Nat):Prop where
 C:TitC P F
 h185:bD2 P F T
 h187:bC0 P F T
 h188:bAi P F T
 h189:aZc P F T
 h190:aXe P F T
 h186:bAj P F T
 h229:bCt P F T
 h181:bE0 P F T
 h182:bFy P F T
 h220:bAg P F T
 h222:aZk P F T
 h178:bFr P F T
theorem bDa (H:MayC P F T) {sp:Int} {s:List UInt8} {g:List (List UInt8)} (hs:s.length≤90000) (hg:g.length≤2^60) (gv:List V) (rs:List Rul) (dv:List V) (hgv:V.imms gv=true) (hdv:V.imms dv=true) (hrs:rs.length≤2^60) (right:Int) :
 PTr P (F 178) [polV gv rs dv,.lst 1 (g.map .str),.int .i64 right,ttV sp s] (.bool (mayF rs g right sp s)):=by
 have h185:=t185 H.h185 H.C H.h187 H.h188 H.h189 H.h190 sp s (by omega)
 exact t178 H.h178 h185 (fun hv=>t181 H.h181 H.h186 H.h229 (by rw [hv] at h185; exact h185) hs) (t182 H.h182) (fun x=>t220 H.h220 H.h222 g x hg) gv rs dv hgv hdv hrs right
structure KnoC (P:Program) (F T:Nat→Nat):Prop where
 m:MayC P F T
 h179:aZj P F T
 h180:bGh P F T
 h191:aZ1 P F T
 h226:bCc P F T
 h227:aXb P F T
 h240:aU9 P F T
 h228:aWy P F T
 h230:aUb P F T
def knR:List Rul:=[⟨true,1,[97,108,108],⟨1,0,[]⟩⟩,⟨false,1,[97,108,108],⟨3,2,[65,110,110]⟩⟩]
theorem bDz:mayF knR [[97,108,108]] 1 0 [65]=true:=by decide +kernel
theorem bFz:mayF knR [[97,108,108]] 1 2 [65,110,110]=false:=by decide +kernel
theorem t176 (hf:bIy P F T) (K:KnoC P F T):PTr P (F 176) [] (.bool true):=by
 refine ptrC [] hf (by simp) rfl ?_
 have m1:=bDa K.m (sp:=0) (s:=[65]) (g:=[[97,108,108]]) (by simp) (by simp) [] knR [] rfl rfl (by simp [knR]) 1
 have m2:=bDa K.m (sp:=2) (s:=[65,110,110]) (g:=[[97,108,108]]) (by simp) (by simp) [] knR [] rfl rfl (by simp [knR]) 1
 rw [bDz] at m1
 rw [bFz] at m2
 have hc:=bKn K.h179 (ruV knR) (aJ8 _) 2 [65,110,110] [] [120]
 have hg:=bJ9 K.h180 K.h191 K.h226 K.h227 K.h240 K.h228 K.h230 (ruV knR) (aJ8 _)
 simp only [knR,ruV,Rul.v,polV,ttV,List.map_cons,List.map_nil] at m1 m2 hc hg
 simp only [c176,push_cast,seval,-Nat.reducePow]
 refine aC0 m1 (by simp only [push_cast,seval,-Nat.reducePow]) (by simp only [push_cast,seval,-Nat.reducePow]) (by simp only [push_cast,seval,-Nat.reducePow]) ?_
 simp only [push_cast,seval,-Nat.reducePow]
 refine aC0 m2 (by simp only [push_cast,seval,-Nat.reducePow]) (by simp only [push_cast,seval,-Nat.reducePow]) (by simp only [push_cast,seval,-Nat.reducePow]) ?_
 simp only [push_cast,seval,-Nat.reducePow]
 refine aC0 hc (by simp only [push_cast,seval,-Nat.reducePow]) (by simp only [push_cast,seval,-Nat.reducePow]) (by simp only [push_cast,seval,-Nat.reducePow]) ?_
 simp only [push_cast,seval,-Nat.reducePow]
 refine aC0 hg (by simp only [push_cast,seval,-Nat.reducePow]) (by simp only [push_cast,seval,-Nat.reducePow]) (by simp only [push_cast,seval,-Nat.reducePow]) ?_
 simp only [push_cast,seval,-Nat.reducePow,view]
end Go.Ab
namespace Go.Ab
variable {P:Program} {F T:Nat→Nat}
open Go.Lib
structure Gro where
 n:List UInt8
 m:List (List UInt8)
def Gro.v (x:Gro):V:=.agg [.str x.n,.lst 1 (x.m.map .str)]
def grV (l:List Gro):List V:=l.map Gro.v
theorem aM3 (l:List Gro):V.imms (grV l)=true:=aFs _ _ fun q=>by simp [Gro.v,V.imm,V.imms,aH7]
end Go.Ab
namespace Go.Ab
variable {P:Program} {tp tgl tg tsl trl tr tsc tt tdl td ti tb ts:TypeId}
theorem bFq (l:List Grd):(gdV l).length=l.length:=List.length_map ..
theorem aXn (l:List Grd):V.imms (gdV l)=true:=aFs _ _ fun q=>rfl
end Go.Ab
