/- Several texts of one kind, merged. No condition. -/
import Derived.Test.YtcmnepgnkcoiiaaGreatDoorAbC2
import Derived.Test.YtcmnepgnkcoiiaaGreatDoorAbC3
import Derived.Test.YtcmnepgnkcoiiaaGreatDoorAbC1
import Derived.Test.YtcmnepgnkcoiiaaGreatDoorAbK4
set_option linter.unusedSimpArgs false
set_option linter.unusedVariables false
namespace Go.Ab
variable {P:Program} {F T:Nat→Nat}
open Go.Lib
theorem t191n (hf:Is191 P F T):PTr P (F 191) [.str []] (.bool false):=by
 refine ptrC [] hf (by simp) rfl ?_
 simp only [c191,push_cast,seval,-Nat.reducePow,view]
set_option maxRecDepth 20000 in
theorem t240n (hf:Is240 P F T):PTr P (F 240) [.int .u64 1] (.int .i64 1):=by
 refine ptrC [] hf (by simp) rfl ?_
 simp only [c240,push_cast,seval,-Nat.reducePow,view]
 done
theorem t227n (hf:Is227 P F T) (h240:Is240 P F T):PTr P (F 227) [.int .u64 1] (.int .i64 1):=by
 refine ptrC [] hf (by simp) rfl ?_
 simp only [c227,push_cast,seval,-Nat.reducePow]
 refine callK_intro (t240n h240) (by simp only [push_cast,seval,-Nat.reducePow]) (by simp only [push_cast,seval,-Nat.reducePow]) ?_
 simp only [push_cast,seval,-Nat.reducePow,view]
theorem t230n (hf:Is230 P F T) (id:Nat) (L:Heap) (nx:Nat):ECall P (F 230) [.own id 1 0 1,.int .i64 0,.int .i64 1] L nx fun r L' nx'=>nx≤nx'∧∀ b,b<nx→L' b=L b:=by
 refine ecallC [] hf (by simp) ?_
 simp only [c230,push_cast,seval,-Nat.reducePow]
 refine loopK_intro (fun m s1=>s1.env 6=.int .i64 1∧s1.env 2=.int .i64 1∧s1.L=L∧nx≤s1.nx) 0 ?_ fun m s1 hJ=>?_
 ·simp only [push_cast,seval,-Nat.reducePow]
  omega
 ·obtain ⟨j6,j2,jL,jn⟩:=hJ
  simp only [push_cast,seval,-Nat.reducePow,j6,j2,jL]
  exact ⟨by omega,by omega,fun _ _=>trivial⟩
theorem t228n (hf:Is228 P F T) (h230:Is230 P F T) (id:Nat) (L:Heap) (nx:Nat):ECall P (F 228) [.own id 1 0 1,.int .i64 0,.int .i64 1,.int .i64 1] L nx fun r L' nx'=>nx≤nx'∧∀ b,b<nx→L' b=L b:=by
 refine ecallC [] hf (by simp) ?_
 simp only [c228,push_cast,seval,-Nat.reducePow]
 refine loopK_intro (fun m s1=>s1.env 0=.own id 1 0 1∧s1.env 1=.int .i64 0∧s1.env 2=.int .i64 1∧s1.L=L∧nx≤s1.nx) 0 ?_ fun m s1 hJ=>?_
 ·simp only [push_cast,seval,-Nat.reducePow]
  omega
 ·obtain ⟨j0,j1,j2,jL,jn⟩:=hJ
  simp only [push_cast,seval,-Nat.reducePow,j0,j1,j2,jL]
  refine ecallK_intro (t230n h230 id _ _) fun r L1 n1 hp=>?_
  obtain ⟨p1,p2⟩:=hp
  exact ⟨by omega,by omega,fun b hb=>p2 b (by omega)⟩
theorem t226n (hf:Is226 P F T) (h227:Is227 P F T) (h240:Is240 P F T) (h228:Is228 P F T) (h230:Is230 P F T) (id:Nat) (L:Heap) (nx:Nat):ECall P (F 226) [.own id 1 0 1] L nx fun r L' nx'=>nx≤nx'∧∀ b,b<nx→L' b=L b:=by
 refine ecallC [] hf (by simp) ?_
 simp only [c226,push_cast,seval,-Nat.reducePow]
 refine callK_intro (t227n h227 h240) (by simp only [push_cast,seval,-Nat.reducePow]) (by simp only [push_cast,seval,-Nat.reducePow]) ?_
 simp only [push_cast,seval,-Nat.reducePow]
 refine ecallK_intro (t228n h228 h230 id _ _) fun r L1 n1 hp=>?_
 obtain ⟨p1,p2⟩:=hp
 exact ⟨by omega,by omega,fun b hb=>p2 b (by omega)⟩
theorem t180n (hf:Is180 P F T) (h191:Is191 P F T) (h226:Is226 P F T) (h227:Is227 P F T) (h240:Is240 P F T) (h228:Is228 P F T) (h230:Is230 P F T) (rv:List V) (hr:V.imms rv=true) :
 PTr P (F 180) [.agg [.nils,.lst 6 rv,.nils],.str []] (.lst 1 [.str [97,108,108]]):=by
 refine ptrC [] hf (by simp) rfl ?_
 simp only [c180,push_cast,seval,-Nat.reducePow,hr]
 refine callK_intro (t191n h191) (by simp only [push_cast,seval,-Nat.reducePow]) (by simp only [push_cast,seval,-Nat.reducePow]) ?_
 simp only [push_cast,seval,-Nat.reducePow]
 refine cutK_intro (fun s1=>s1.env 2=.ptr 2 0∧s1.L 2=some (.box (T 16) [.nils,.lst 6 rv,.nils])∧s1.env 5=.ptr 47 0∧s1.L 47=some (.box (T 26) [.own 52 1 0 1])∧s1.L 52=some (.vec (T 21) 1 [.str [97,108,108]])∧100≤s1.nx) ?_ ?_
 ·simp only [push_cast,seval,-Nat.reducePow]
  done
 rintro s0 ⟨y2,yB,y5,yC,yV,yn⟩
 simp only [push_cast,seval,-Nat.reducePow,y2,yB,y5,yC,yV]
 refine loopK_intro (fun m s1=>m≤1∧s1.env 7=.bool (decide (m=1))∧s1.env 2=.ptr 2 0∧s1.L 2=some (.box (T 16) [.nils,.lst 6 rv,.nils])∧s1.env 5=.ptr 47 0∧s1.L 47=some (.box (T 26) [.own 52 1 0 1])∧s1.L 52=some (.vec (T 21) 1 [.str [97,108,108]])∧100≤s1.nx) 1 ?_ fun m s1 hJ=>?_
 ·simp only [push_cast,seval,-Nat.reducePow,y2,yB,y5,yC,yV]
  omega
 ·obtain ⟨hm,j7,j2,jB,j5,jC,jV,jn⟩:=hJ
  by_cases h:m=1
  ·subst h
   simp only [push_cast,seval,-Nat.reducePow,j7,j2,jB,j5,jC,jV]
   refine loopK_intro (fun m s2=>s2.env 7=.bool false∧s2.env 20=.int .i64 0∧s2.env 21=.int .i64 0∧s2.env 2=.ptr 2 0∧s2.L 2=some (.box (T 16) [.nils,.lst 6 rv,.nils])∧s2.env 5=.ptr 47 0∧s2.L 47=some (.box (T 26) [.own 52 1 0 1])∧s2.L 52=some (.vec (T 21) 1 [.str [97,108,108]])∧100≤s2.nx) 0 ?_ fun m s2 hK=>?_
   ·simp only [push_cast,seval,-Nat.reducePow,j7,j2,jB,j5,jC,jV]
    done
   ·obtain ⟨k7,k20,k21,k2,kB,k5,kC,kV,kn⟩:=hK
    simp only [push_cast,seval,-Nat.reducePow,k7,k20,k21,k2,kB,k5,kC,kV]
    exact ⟨0,by omega,by omega,rfl,by omega⟩
  ·have h0:m=0:=by omega
   subst h0
   simp only [push_cast,seval,-Nat.reducePow,j7,j2,jB,j5,jC,jV]
   refine ecallK_intro (t226n h226 h227 h240 h228 h230 52 _ _) fun r L1 n1 hp=>?_
   obtain ⟨p1,p2⟩:=hp
   have b1:L1 47=some (.box (T 26) [.own 52 1 0 1]):=by rw [p2 47 (by omega)]; exact jC
   have b2:L1 52=some (.vec (T 21) 1 [.str [97,108,108]]):=by rw [p2 52 (by omega)]; exact jV
   simp only [push_cast,seval,-Nat.reducePow,j5,b1,b2]
   exact view_own1 b2 rfl rfl
theorem t179n (hf:Is179 P F T) (rv:List V) (hr:V.imms rv=true) (sp:Int) (s old now:List UInt8) :
 PTr P (F 179) [.agg [.nils,.lst 6 rv,.nils],.nils,ttV sp s,.str old,.str now] (.int .i64 1):=by
 refine ptrC [] hf (by simp) rfl ?_
 simp only [c179,push_cast,seval,-Nat.reducePow,hr,ttV]
 refine loopK_intro (fun m s1=>s1.env 11=.int .i64 1∧s1.env 16=.int .i64 0∧s1.env 17=.int .i64 0) 0 ?_ fun m s1 hJ=>?_
 ·simp only [push_cast,seval,-Nat.reducePow]
 ·obtain ⟨j0,j1,j2⟩:=hJ
  simp only [push_cast,seval,-Nat.reducePow,j0,j1,j2,view]
end Go.Ab
namespace Go.Ab
variable {P:Program} {F T:Nat→Nat}
open Go.Lib
structure MayC (P:Program) (F T:Nat→Nat):Prop where
 C:TitC P F
 h185:Is185 P F T
 h187:Is187 P F T
 h188:Is188 P F T
 h189:Is189 P F T
 h190:Is190 P F T
 h186:Is186 P F T
 h229:Is229 P F T
 h181:Is181 P F T
 h182:Is182 P F T
 h220:Is220 P F T
 h222:Is222 P F T
 h178:Is178 P F T
theorem may_ok (H:MayC P F T) {sp:Int} {s:List UInt8} {g:List (List UInt8)} (hs:s.length≤90000) (hg:g.length≤2^60) (gv:List V) (rs:List Rul) (dv:List V) (hgv:V.imms gv=true) (hdv:V.imms dv=true) (hrs:rs.length≤2^60) (right:Int) :
 PTr P (F 178) [polV gv rs dv,.lst 1 (g.map .str),.int .i64 right,ttV sp s] (.bool (mayF rs g right sp s)):=by
 have h185:=t185 H.h185 H.C H.h187 H.h188 H.h189 H.h190 sp s (by omega)
 exact t178 H.h178 h185 (fun hv=>t181 H.h181 H.h186 H.h229 (by rw [hv] at h185; exact h185) hs) (t182 H.h182) (fun x=>t220 H.h220 H.h222 g x hg) gv rs dv hgv hdv hrs right
structure KnoC (P:Program) (F T:Nat→Nat):Prop where
 m:MayC P F T
 h179:Is179 P F T
 h180:Is180 P F T
 h191:Is191 P F T
 h226:Is226 P F T
 h227:Is227 P F T
 h240:Is240 P F T
 h228:Is228 P F T
 h230:Is230 P F T
def knR:List Rul:=[⟨true,1,[97,108,108],⟨1,0,[]⟩⟩,⟨false,1,[97,108,108],⟨3,2,[65,110,110]⟩⟩]
theorem kn_may1:mayF knR [[97,108,108]] 1 0 [65]=true:=by decide +kernel
theorem kn_may2:mayF knR [[97,108,108]] 1 2 [65,110,110]=false:=by decide +kernel
theorem t176 (hf:Is176 P F T) (K:KnoC P F T):PTr P (F 176) [] (.bool true):=by
 refine ptrC [] hf (by simp) rfl ?_
 have m1:=may_ok K.m (sp:=0) (s:=[65]) (g:=[[97,108,108]]) (by simp) (by simp) [] knR [] rfl rfl (by simp [knR]) 1
 have m2:=may_ok K.m (sp:=2) (s:=[65,110,110]) (g:=[[97,108,108]]) (by simp) (by simp) [] knR [] rfl rfl (by simp [knR]) 1
 rw [kn_may1] at m1
 rw [kn_may2] at m2
 have hc:=t179n K.h179 (ruV knR) (ruV_imm _) 2 [65,110,110] [] [120]
 have hg:=t180n K.h180 K.h191 K.h226 K.h227 K.h240 K.h228 K.h230 (ruV knR) (ruV_imm _)
 simp only [knR,ruV,Rul.v,polV,ttV,List.map_cons,List.map_nil] at m1 m2 hc hg
 simp only [c176,push_cast,seval,-Nat.reducePow]
 refine callK_le m1 (by simp only [push_cast,seval,-Nat.reducePow]) (by simp only [push_cast,seval,-Nat.reducePow]) (by simp only [push_cast,seval,-Nat.reducePow]) ?_
 simp only [push_cast,seval,-Nat.reducePow]
 refine callK_le m2 (by simp only [push_cast,seval,-Nat.reducePow]) (by simp only [push_cast,seval,-Nat.reducePow]) (by simp only [push_cast,seval,-Nat.reducePow]) ?_
 simp only [push_cast,seval,-Nat.reducePow]
 refine callK_le hc (by simp only [push_cast,seval,-Nat.reducePow]) (by simp only [push_cast,seval,-Nat.reducePow]) (by simp only [push_cast,seval,-Nat.reducePow]) ?_
 simp only [push_cast,seval,-Nat.reducePow]
 refine callK_le hg (by simp only [push_cast,seval,-Nat.reducePow]) (by simp only [push_cast,seval,-Nat.reducePow]) (by simp only [push_cast,seval,-Nat.reducePow]) ?_
 simp only [push_cast,seval,-Nat.reducePow,view]
end Go.Ab
namespace Go.Ab
variable {P:Program} {F T:Nat→Nat}
open Go.Lib
structure Gro where
 n:List UInt8
 m:List (List UInt8)
def Gro.v (x:Gro):V:=.agg [.str x.n,.lst 1 (x.m.map .str)]
def grV (l:List Gro):List V:=l.map Gro.v
theorem grV_at {l:List Gro} {i:Nat} (h:i<l.length):∃ q,l[i]?=some q∧(grV l).getD i .junk=.agg [.str q.n,.lst 1 (q.m.map .str)]:=⟨l[i],by simp [h],by simp [grV,List.getD,h,Gro.v]⟩
theorem grV_len (l:List Gro):(grV l).length=l.length:=List.length_map ..
theorem grV_imm (l:List Gro):V.imms (grV l)=true:=imms_map _ _ fun q=>by simp [Gro.v,V.imm,V.imms,imms_str]
def largeB (gs:List Gro) (rs:List Rul) (dv:List V):Bool:=decide (12<gs.length)||decide (30<rs.length)||decide (12<dv.length)||gs.any fun g=>decide (12<g.m.length)
theorem t177 (hf:Is177 P F T) (gs:List Gro) (rs:List Rul) (dv:List V) (hdv:V.imms dv=true):PTr P (F 177) [polV (grV gs) rs dv] (.bool (largeB gs rs dv)):=by
 refine ptrC [] hf (by simp) rfl ?_
 have hgi:=grV_imm gs
 have hgl:=grV_len gs
 have hri:=ruV_imm rs
 have hrl:=ruV_len rs
 simp only [c177,push_cast,seval,-Nat.reducePow,polV,hgi,hri,hdv,hgl,hrl]
 by_cases a1:12<gs.length
 ·have a1':(12:Int)<((gs.length:Nat):Int):=by omega
  simp only [push_cast,seval,-Nat.reducePow,a1',largeB,decide_eq_true a1,Bool.true_or,view]
 have a1':¬ (12:Int)<((gs.length:Nat):Int):=by omega
 by_cases a2:30<rs.length
 ·have a2':(30:Int)<((rs.length:Nat):Int):=by omega
  simp only [push_cast,seval,-Nat.reducePow,a1',a2',hrl,largeB,decide_eq_true a2,Bool.true_or,Bool.or_true,view]
 have a2':¬ (30:Int)<((rs.length:Nat):Int):=by omega
 by_cases a3:12<dv.length
 ·have a3':(12:Int)<((dv.length:Nat):Int):=by omega
  simp only [push_cast,seval,-Nat.reducePow,a1',a2',a3',hrl,largeB,decide_eq_true a3,Bool.true_or,Bool.or_true,view]
 have a3':¬ (12:Int)<((dv.length:Nat):Int):=by omega
 have hb:largeB gs rs dv=gs.any fun g=>decide (12<g.m.length):=by simp only [largeB,decide_eq_false a1,decide_eq_false a2,decide_eq_false a3,Bool.false_or]
 rw [hb]
 simp only [push_cast,seval,-Nat.reducePow,a1',a2',a3',hrl]
 refine loopK_intro (fun m s1=>∃ i,i≤gs.length∧m=gs.length-i∧(gs.any fun g=>decide (12<g.m.length))=((gs.drop i).any fun g=>decide (12<g.m.length))∧s1.env 1=.ptr 1 0∧s1.L 1=some (.box (T 16) [.lst 2 (grV gs),.lst 6 (ruV rs),.lst 5 dv])∧s1.env 3=.int .i64 i) gs.length ⟨0,?_⟩ fun m s1 hJ=>?_
 ·simp only [push_cast,seval,-Nat.reducePow]
  rfl
 ·obtain ⟨i,hi,rfl,hn,j1,jB,j3⟩:=hJ
  by_cases h:i<gs.length
  ·have h':((i:Nat):Int)<((gs.length:Nat):Int):=by omega
   obtain ⟨q,hq,hg⟩:=grV_at h
   rw [drop_at hq,List.any_cons] at hn
   have hml:(q.m.map V.str).length=q.m.length:=List.length_map ..
   by_cases e:12<q.m.length
   ·have e':(12:Int)<((q.m.length:Nat):Int):=by omega
    rw [decide_eq_true e,Bool.true_or] at hn
    simp only [push_cast,seval,-Nat.reducePow,j1,jB,j3,h',hgl,hg,hml,e',hn,view]
    exact h
   ·have e':¬ (12:Int)<((q.m.length:Nat):Int):=by omega
    rw [decide_eq_false e,Bool.false_or] at hn
    simp only [push_cast,seval,-Nat.reducePow,j1,jB,j3,h',hgl,hg,hml,e']
    exact ⟨h,⟨by omega,by omega⟩,gs.length-(i+1),by omega,i+1,by omega,rfl,hn,by simp⟩
  ·have h':¬ ((i:Nat):Int)<((gs.length:Nat):Int):=by omega
   obtain rfl:i=gs.length:=by omega
   rw [List.drop_length,List.any_nil] at hn
   simp only [push_cast,seval,-Nat.reducePow,j1,jB,j3,h',hgl,hn,view]
end Go.Ab
namespace Go.Ab
theorem list_dec {α:Type} (g:α→V):∀ es:List V,(∀ x,x∈es→∃ q,x=g q)→∃ l:List α,es=l.map g
 | [],_=>⟨[],rfl⟩
 | e::r,h=>by
   obtain ⟨q,hq⟩:=h e (by simp)
   obtain ⟨l,hl⟩:=list_dec g r fun x hx=>h x (by simp [hx])
   exact ⟨q::l,by rw [hq,hl]; rfl⟩
theorem list2 {xs:List V} (h:xs.length=2):∃ a b,xs=[a,b]:=by
 match xs,h with
 | [a,b],_=>exact ⟨a,b,rfl⟩
theorem list6 {xs:List V} (h:xs.length=6):∃ a b c d e f,xs=[a,b,c,d,e,f]:=by
 match xs,h with
 | [a,b,c,d,e,f],_=>exact ⟨a,b,c,d,e,f,rfl⟩
structure PolTys (P:Program) (tp tgl tg tsl trl tr tsc tt tdl td ti tb ts:TypeId):Prop where
 hi:P.underlying ti=some (.int .i64)
 hb:P.underlying tb=some .bool
 hs:P.underlying ts=some .string
 ci:P.cellsOf ti=1
 cb:P.cellsOf tb=1
 cs:P.cellsOf ts=1
 ass:isAg P ts=false
 hsl:P.underlying tsl=some (.slice ts)
 csl:P.cellsOf tsl=1
 asl:isAg P tsl=false
 st:sparts P tt=some [(0,ti),(1,ts)]
 ct:P.cellsOf tt=2
 att:isAg P tt=true
 ssc:sparts P tsc=some [(0,ti),(1,tt)]
 csc:P.cellsOf tsc=3
 sr:sparts P tr=some [(0,tb),(1,ti),(2,ts),(3,tsc)]
 cr:P.cellsOf tr=6
 ar:isAg P tr=true
 hrl:P.underlying trl=some (.slice tr)
 crl:P.cellsOf trl=1
 sg:sparts P tg=some [(0,ts),(1,tsl)]
 cg:P.cellsOf tg=2
 ag:isAg P tg=true
 hgl:P.underlying tgl=some (.slice tg)
 cgl:P.cellsOf tgl=1
 sd:sparts P td=some [(0,tb),(1,ts),(2,tt),(4,ts)]
 cd:P.cellsOf td=5
 ad:isAg P td=true
 hdl:P.underlying tdl=some (.slice td)
 cdl:P.cellsOf tdl=1
 sp:sparts P tp=some [(0,tgl),(1,trl),(2,tdl)]
 cp:P.cellsOf tp=3
 ap:isAg P tp=true
variable {P:Program} {tp tgl tg tsl trl tr tsc tt tdl td ti tb ts:TypeId}
theorem vt_strs (H:PolTys P tp tgl tg tsl trl tr tsc tt tdl td ti tb ts) {n:Nat} {xs:List V} (h:VT P n tsl xs):∃ l:List (List UInt8),xs=[.lst 1 (l.map .str)]:=by
 cases n with
 | zero=>exact (vt_zero h).elim
 | succ n =>
   obtain ⟨es,h1,hes⟩:=vt_slice H.hsl h
   rw [H.cs] at h1 hes
   obtain ⟨l,rfl⟩:=list_dec V.str es fun x hx=>by
    obtain ⟨ys,g1,g2,g3⟩:=hes x hx
    cases n with
    | zero=>exact (vt_zero g3).elim
    | succ n =>
      obtain ⟨s,rfl⟩:=vt_str H.hs g3
      exact ⟨s,by rw [g1,H.ass]; rfl⟩
   exact ⟨l,h1⟩
theorem vt_title (H:PolTys P tp tgl tg tsl trl tr tsc tt tdl td ti tb ts) {n:Nat} {xs:List V} (h:VT P n tt xs):∃ (sp:Int) (s:List UInt8),xs=[.int .i64 sp,.str s]:=by
 cases n with
 | zero=>exact (vt_zero h).elim
 | succ n =>
   obtain ⟨q1,q2⟩:=vt_struct H.st h
   rw [H.ct] at q1
   obtain ⟨a,b,rfl⟩:=list2 q1
   have k1:=q2 (0,ti) (by simp)
   have k2:=q2 (1,ts) (by simp)
   simp only [H.ci,H.cs,List.drop_succ_cons,List.drop_zero,List.take_succ_cons,List.take_zero] at k1 k2
   cases n with
   | zero=>exact (vt_zero k1).elim
   | succ n =>
     obtain ⟨m1,e1,_⟩:=vt_int H.hi k1
     obtain ⟨m2,e2⟩:=vt_str H.hs k2
     simp only [List.cons.injEq,and_true] at e1 e2
     exact ⟨m1,m2,by rw [e1,e2]⟩
theorem vt_rules (H:PolTys P tp tgl tg tsl trl tr tsc tt tdl td ti tb ts) {n:Nat} {xs:List V} (h:VT P n trl xs):∃ l:List Rul,xs=[.lst 6 (ruV l)]:=by
 cases n with
 | zero=>exact (vt_zero h).elim
 | succ n =>
   obtain ⟨es,h1,hes⟩:=vt_slice H.hrl h
   rw [H.cr] at h1 hes
   obtain ⟨l,rfl⟩:=list_dec Rul.v es fun x hx=>by
    obtain ⟨ys,g1,g2,g3⟩:=hes x hx
    obtain ⟨a,b,c,d,e,f,rfl⟩:=list6 g2
    cases n with
    | zero=>exact (vt_zero g3).elim
    | succ n =>
      obtain ⟨q1,q2⟩:=vt_struct H.sr g3
      have k1:=q2 (0,tb) (by simp)
      have k2:=q2 (1,ti) (by simp)
      have k3:=q2 (2,ts) (by simp)
      have k4:=q2 (3,tsc) (by simp)
      simp only [H.ci,H.cs,H.cb,H.csc,List.drop_succ_cons,List.drop_zero,List.take_succ_cons,List.take_zero] at k1 k2 k3 k4
      cases n with
      | zero=>exact (vt_zero k1).elim
      | succ n =>
        obtain ⟨m1,e1⟩:=vt_bool H.hb k1
        obtain ⟨m2,e2,_⟩:=vt_int H.hi k2
        obtain ⟨m3,e3⟩:=vt_str H.hs k3
        obtain ⟨_,q3⟩:=vt_struct H.ssc k4
        have k5:=q3 (0,ti) (by simp)
        have k6:=q3 (1,tt) (by simp)
        simp only [H.ci,H.ct,List.drop_succ_cons,List.drop_zero,List.take_succ_cons,List.take_zero] at k5 k6
        obtain ⟨sp,s,e6⟩:=vt_title H k6
        cases n with
        | zero=>exact (vt_zero k5).elim
        | succ n =>
          obtain ⟨m5,e5,_⟩:=vt_int H.hi k5
          simp only [List.cons.injEq,and_true] at e1 e2 e3 e5 e6
          obtain ⟨e6,e7⟩:=e6
          exact ⟨⟨m1,m2,m3,m5,sp,s⟩,by rw [g1,H.ar,e1,e2,e3,e5,e6,e7]; rfl⟩
   exact ⟨l,h1⟩
theorem vt_groups (H:PolTys P tp tgl tg tsl trl tr tsc tt tdl td ti tb ts) {n:Nat} {xs:List V} (h:VT P n tgl xs):∃ l:List Gro,xs=[.lst 2 (grV l)]:=by
 cases n with
 | zero=>exact (vt_zero h).elim
 | succ n =>
   obtain ⟨es,h1,hes⟩:=vt_slice H.hgl h
   rw [H.cg] at h1 hes
   obtain ⟨l,rfl⟩:=list_dec Gro.v es fun x hx=>by
    obtain ⟨ys,g1,g2,g3⟩:=hes x hx
    obtain ⟨a,b,rfl⟩:=list2 g2
    cases n with
    | zero=>exact (vt_zero g3).elim
    | succ n =>
      obtain ⟨q1,q2⟩:=vt_struct H.sg g3
      have k1:=q2 (0,ts) (by simp)
      have k2:=q2 (1,tsl) (by simp)
      simp only [H.cs,H.csl,List.drop_succ_cons,List.drop_zero,List.take_succ_cons,List.take_zero] at k1 k2
      obtain ⟨l,e2⟩:=vt_strs H k2
      cases n with
      | zero=>exact (vt_zero k1).elim
      | succ n =>
        obtain ⟨m1,e1⟩:=vt_str H.hs k1
        simp only [List.cons.injEq,and_true] at e1 e2
        exact ⟨⟨m1,l⟩,by rw [g1,H.ag,e1,e2]; rfl⟩
   exact ⟨l,h1⟩
theorem vt_guards (H:PolTys P tp tgl tg tsl trl tr tsc tt tdl td ti tb ts) {n:Nat} {xs:List V} (h:VT P n tdl xs):∃ l:List Grd,xs=[.lst 5 (gdV l)]:=by
 cases n with
 | zero=>exact (vt_zero h).elim
 | succ n =>
   obtain ⟨es,h1,hes⟩:=vt_slice H.hdl h
   rw [H.cd] at h1 hes
   obtain ⟨l,rfl⟩:=list_dec Grd.v es fun x hx=>by
    obtain ⟨ys,g1,g2,g3⟩:=hes x hx
    obtain ⟨a,b,c,d,e,rfl⟩:=list5 g2
    cases n with
    | zero=>exact (vt_zero g3).elim
    | succ n =>
      obtain ⟨q1,q2⟩:=vt_struct H.sd g3
      have k1:=q2 (0,tb) (by simp)
      have k2:=q2 (1,ts) (by simp)
      have k3:=q2 (2,tt) (by simp)
      have k4:=q2 (4,ts) (by simp)
      simp only [H.cs,H.cb,H.ct,List.drop_succ_cons,List.drop_zero,List.take_succ_cons,List.take_zero] at k1 k2 k3 k4
      obtain ⟨sp,s,e3⟩:=vt_title H k3
      cases n with
      | zero=>exact (vt_zero k1).elim
      | succ n =>
        obtain ⟨m1,e1⟩:=vt_bool H.hb k1
        obtain ⟨m2,e2⟩:=vt_str H.hs k2
        obtain ⟨m4,e4⟩:=vt_str H.hs k4
        simp only [List.cons.injEq,and_true] at e1 e2 e3 e4
        obtain ⟨e3,e5⟩:=e3
        exact ⟨⟨m1,m2,sp,s,m4⟩,by rw [g1,H.ad,e1,e2,e3,e4,e5]; rfl⟩
   exact ⟨l,h1⟩
theorem arg_policy (H:PolTys P tp tgl tg tsl trl tr tsc tt tdl td ti tb ts) {x:V} (h:ArgT P tp x):∃ (gs:List Gro) (rs:List Rul) (ds:List Grd),x=polV (grV gs) rs (gdV ds):=by
 obtain ⟨n,ys,h1,h2,h3⟩:=h
 cases n with
 | zero=>exact (vt_zero h1).elim
 | succ n =>
   obtain ⟨q1,q2⟩:=vt_struct H.sp h1
   rw [H.cp] at q1
   obtain ⟨a,b,c,rfl⟩:=list3 q1
   have k1:=q2 (0,tgl) (by simp)
   have k2:=q2 (1,trl) (by simp)
   have k3:=q2 (2,tdl) (by simp)
   simp only [H.cgl,H.crl,H.cdl,List.drop_succ_cons,List.drop_zero,List.take_succ_cons,List.take_zero] at k1 k2 k3
   obtain ⟨gs,e1⟩:=vt_groups H k1
   obtain ⟨rs,e2⟩:=vt_rules H k2
   obtain ⟨ds,e3⟩:=vt_guards H k3
   simp only [List.cons.injEq,and_true] at e1 e2 e3
   exact ⟨gs,rs,ds,by rw [h2,H.ap,e1,e2,e3]; rfl⟩
theorem gdV_len (l:List Grd):(gdV l).length=l.length:=List.length_map ..
theorem gdV_imm (l:List Grd):V.imms (gdV l)=true:=imms_map _ _ fun q=>rfl
end Go.Ab
