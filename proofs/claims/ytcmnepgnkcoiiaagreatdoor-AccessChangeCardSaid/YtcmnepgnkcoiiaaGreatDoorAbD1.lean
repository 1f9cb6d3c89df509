/- Several texts of one kind, merged. No condition. -/
import Derived.Test.YtcmnepgnkcoiiaaGreatDoorAbC4
import Derived.Test.YtcmnepgnkcoiiaaGreatDoorAbZ4
set_option linter.unusedSimpArgs false
set_option linter.unusedVariables false
namespace Go.Ab
variable {P:Program} {F T:Nat→Nat}
open Go.Lib
theorem findIx_lt (n:List UInt8):∀ (l:List QSec) (j:Nat),(findIx n l j).2=true→∃ k,(findIx n l j).1=((j+k:Nat):Int)∧k<l.length
 | [],j,h=>by simp [findIx] at h
 | q::r,j,h=>by
   simp only [findIx] at h ⊢
   split
   ·exact ⟨0,rfl,by simp⟩
   ·rename_i hq
    rw [if_neg hq] at h
    obtain ⟨k,h1,h2⟩:=findIx_lt n r (j+1) h
    exact ⟨k+1,by rw [h1]; omega,by simp; omega⟩
theorem beq_ff:(false==false)=true:=rfl
theorem beq_ft:(false==true)=false:=rfl
theorem beq_tf:(true==false)=false:=rfl
theorem beq_tt:(true==true)=true:=rfl
theorem t183 (hf:Is183 P F T) (h124:SectC P (F 124)) (S:StrC0 P F) (h128:Is128 P F T) (h132:Is132 P F T) (h141:Is141 P F T) (s name:List UInt8) (hs:s.length≤900) :
 PTr P (F 183) [.str s,.str name] (.tup [.str (partF s name).1,.bool (partF s name).2]):=by
 have hl:=sect_len s
 have c1:=h124 s (by omega)
 have c2:=t128 h128 S ((sectF s).map Sec.q) name (by rw [List.length_map]; omega)
 rw [← secV_q] at c2
 refine ptrC [] hf (by simp) rfl ?_
 unfold partF
 have c3:=t132 h132 h141 h124 s (by omega) (findIx (trimS name wsp) ((sectF s).map Sec.q) 0).1
 generalize findIx (trimS name wsp) ((sectF s).map Sec.q) 0=y at *
 obtain ⟨i,b⟩:=y
 simp only [c183,push_cast,seval,-Nat.reducePow]
 refine callK_intro c1 (by simp only [push_cast,seval,-Nat.reducePow]) (by simp only [push_cast,seval,-Nat.reducePow,secV_imm]) ?_
 simp only [push_cast,seval,-Nat.reducePow]
 refine callK_intro c2 (by simp only [push_cast,seval,-Nat.reducePow,secV_imm]) (by simp only [push_cast,seval,-Nat.reducePow]) ?_
 cases b with
 | false =>
   simp only [push_cast,seval,-Nat.reducePow,view]
   try rfl
 | true =>
   simp only [push_cast,seval,-Nat.reducePow]
   refine callK_intro c3 (by simp only [push_cast,seval,-Nat.reducePow]) (by simp only [push_cast,seval,-Nat.reducePow]) ?_
   simp only [push_cast,seval,-Nat.reducePow,view]
   try rfl
theorem t184 (hf:Is184 P F T) (h183:∀ s name:List UInt8,s.length≤900→PTr P (F 183) [.str s,.str name] (.tup [.str (partF s name).1,.bool (partF s name).2])) (g:Grd) (old now:List UInt8) (ho:old.length≤900) (hn:now.length≤900) :
 PTr P (F 184) [g.v,.str old,.str now] (.bool (concF g.sec old now)):=by
 refine ptrC [] hf (by simp) rfl ?_
 unfold concF
 simp only [c184,push_cast,seval,-Nat.reducePow,Grd.v]
 by_cases h:g.sec=[]
 ·rw [if_pos h]
  simp only [push_cast,seval,-Nat.reducePow,h,view]
 ·rw [if_neg h]
  have c1:=h183 old g.sec ho
  have c2:=h183 now g.sec hn
  generalize partF old g.sec=x at *
  generalize partF now g.sec=y at *
  obtain ⟨a,b⟩:=x
  obtain ⟨c,d⟩:=y
  simp only [push_cast,seval,-Nat.reducePow,h]
  refine callK_intro c1 (by simp only [push_cast,seval,-Nat.reducePow]) (by simp only [push_cast,seval,-Nat.reducePow]) ?_
  simp only [push_cast,seval,-Nat.reducePow]
  refine callK_intro c2 (by simp only [push_cast,seval,-Nat.reducePow]) (by simp only [push_cast,seval,-Nat.reducePow]) ?_
  cases b <;> cases d
  all_goals simp only [push_cast,seval,-Nat.reducePow,beq_ff,beq_ft,beq_tf,beq_tt,view]
  all_goals (try rfl)
theorem t196 (hf:Is196 P F T) (h159:SectC P (F 159)) (h129:Is129 P F T) (h125:Is125 P F T) (h138:Is138 P F T) (s name:List UInt8) (hs:s.length≤900) :
 PTr P (F 196) [.str s,.str name] (.tup [.str (partF s name).1,.bool (partF s name).2]):=by
 have hl:=sect_len s
 have c1:=h159 s (by omega)
 have c2:=t129 h129 h125 h138 ((sectF s).map Sec.q) name (by rw [List.length_map]; omega)
 rw [← secV_q] at c2
 refine ptrC [] hf (by simp) rfl ?_
 unfold partF
 have hlt:=findIx_lt (trimS name wsp) ((sectF s).map Sec.q) 0
 generalize findIx (trimS name wsp) ((sectF s).map Sec.q) 0=y at *
 obtain ⟨i,b⟩:=y
 simp only [c196,push_cast,seval,-Nat.reducePow]
 refine callK_intro c1 (by simp only [push_cast,seval,-Nat.reducePow]) (by simp only [push_cast,seval,-Nat.reducePow,secV_imm]) ?_
 simp only [push_cast,seval,-Nat.reducePow]
 refine callK_intro c2 (by simp only [push_cast,seval,-Nat.reducePow,secV_imm]) (by simp only [push_cast,seval,-Nat.reducePow]) ?_
 cases b with
 | false =>
   simp only [push_cast,seval,-Nat.reducePow,view]
   try rfl
 | true =>
   obtain ⟨k,h1,hk⟩:=hlt rfl
   simp only [Nat.zero_add,List.length_map] at h1 hk
   subst h1
   obtain ⟨o1,o2,o3⟩:=partS_ok s k
   have hp:partS (sectF s) k=(sectF s).getD k zsec:=by unfold partS; rw [if_pos (by omega)]; rfl
   have hx:(secV (sectF s)).getD k .junk=((sectF s).getD k zsec).v:=by simp [secV,List.getD,hk]
   have hsl:=secV_len (sectF s)
   simp only [textF]
   rw [hp] at o1 o2 o3 ⊢
   generalize (sectF s).getD k zsec=x at *
   obtain ⟨lv,ti,fr,bd,to⟩:=x
   simp only [Sec.v] at hx o1 o2 o3 ⊢
   simp only [push_cast,seval,-Nat.reducePow,hx,hsl,view]
   exact ⟨hk,hk,by omega,o3⟩
theorem t197 (hf:Is197 P F T) (h193:Is193 P F T) (h196:∀ s name:List UInt8,s.length≤900→PTr P (F 196) [.str s,.str name] (.tup [.str (partF s name).1,.bool (partF s name).2])) (g:Grd) (l:List (List UInt8)) (hgl:l.length≤2^60) (old now:List UInt8) (ho:old.length≤900) (hn:now.length≤900) :
 PTr P (F 197) [g.v,.lst 1 (l.map .str),.str old,.str now] (.bool (!l.contains g.gr&&concF g.sec old now)):=by
 refine ptrC [] hf (by simp) rfl ?_
 have hli:=imms_str l
 simp only [c197,push_cast,seval,-Nat.reducePow,Grd.v]
 refine callK_intro (t193 h193 l g.gr hgl) (by simp only [push_cast,seval,-Nat.reducePow,hli]) (by simp only [push_cast,seval,-Nat.reducePow]) ?_
 cases hc:l.contains g.gr with
 | true=>simp only [push_cast,seval,-Nat.reducePow,view]; rfl
 | false =>
   unfold concF
   by_cases h:g.sec=[]
   ·rw [if_pos h]
    simp only [push_cast,seval,-Nat.reducePow,h,view,Bool.not_false,Bool.true_and]
   ·rw [if_neg h]
    have c1:=h196 old g.sec ho
    have c2:=h196 now g.sec hn
    generalize partF old g.sec=x at *
    generalize partF now g.sec=y at *
    obtain ⟨a,b⟩:=x
    obtain ⟨c,d⟩:=y
    simp only [push_cast,seval,-Nat.reducePow,h]
    refine callK_intro c1 (by simp only [push_cast,seval,-Nat.reducePow]) (by simp only [push_cast,seval,-Nat.reducePow]) ?_
    simp only [push_cast,seval,-Nat.reducePow]
    refine callK_intro c2 (by simp only [push_cast,seval,-Nat.reducePow]) (by simp only [push_cast,seval,-Nat.reducePow]) ?_
    cases b <;> cases d
    all_goals simp only [push_cast,seval,-Nat.reducePow,beq_ff,beq_ft,beq_tf,beq_tt,view]
    all_goals (try rfl)
end Go.Ab
namespace Go.Ab
variable {P:Program} {F T:Nat→Nat}
open Go.Lib
theorem gdV_at {l:List Grd} {i:Nat} (h:i<l.length):∃ q,l[i]?=some q∧(gdV l).getD i .junk=.agg [.bool q.st,.str q.gr,.int .i64 q.sp,.str q.n,.str q.sec]:=⟨l[i],by simp [h],by simp [gdV,List.getD,h,Grd.v]⟩
theorem t179 (hf:Is179 P F T) (g:List (List UInt8)) (old now:List UInt8) (h220:∀ x,PTr P (F 220) [.lst 1 (g.map .str),.str x] (.bool (g.contains x))) (h184:∀ q:Grd,PTr P (F 184) [q.v,.str old,.str now] (.bool (concF q.sec old now)))
 (gv:List V) (rs:List Rul) (ds:List Grd) (hgv:V.imms gv=true) (hds:ds.length≤2^60) (sp:Int) (s:List UInt8) :
 PTr P (F 179) [polV gv rs (gdV ds),.lst 1 (g.map .str),ttV sp s,.str old,.str now] (.int .i64 (chgF g sp s old now ds 1)):=by
 refine ptrC [] hf (by simp) rfl ?_
 have hri:=ruV_imm rs
 have hdi:=gdV_imm ds
 have hdl:=gdV_len ds
 have hgi:=imms_str g
 simp only [c179,push_cast,seval,-Nat.reducePow,polV,ttV,hgv,hri,hdi,hdl]
 refine loopK_intro (fun m s1=>∃ i out,i≤ds.length∧m=ds.length-i∧chgF g sp s old now ds 1=chgF g sp s old now (ds.drop i) out∧s1.env 1=.lst 1 (g.map .str)∧s1.env 3=.str old∧s1.env 4=.str now∧s1.env 7=.ptr 7 0∧s1.L 7=some (.box (T 17) [.int .i64 sp,.str s])∧s1.env 11=.int .i64 out∧s1.env 15=.lst 5 (gdV ds)∧s1.env 16=.int .i64 ds.length∧s1.env 17=.int .i64 i∧8≤s1.nx) ds.length ⟨0,1,?_⟩ fun m s1 hJ=>?_
 ·simp only [push_cast,seval,-Nat.reducePow]
  rfl
 ·obtain ⟨i,out,hi,rfl,hch,j1,j3,j4,j7,jB,j11,j15,j16,j17,jn⟩:=hJ
  by_cases h:i<ds.length
  ·have h':((i:Nat):Int)<((ds.length:Nat):Int):=by omega
   obtain ⟨q,hq,hg⟩:=gdV_at h
   rw [drop_at hq,chgF] at hch
   have q7:7≠s1.nx+55:=by omega
   by_cases e1:q.sp=sp∧q.n=s
   ·obtain ⟨e1,e2⟩:=e1
    simp only [push_cast,seval,-Nat.reducePow,j1,j3,j4,j7,jB,j11,j15,j16,j17,h',hdl,hg,q7,e1,e2]
    refine ⟨h,callK_intro (h220 q.gr) (by simp only [push_cast,seval,-Nat.reducePow,hgi]) (by simp only [push_cast,seval,-Nat.reducePow]) ?_⟩
    cases e3:g.contains q.gr with
    | true =>
      have hh:hitG g sp s old now q=false:=by simp only [hitG,e3,Bool.not_true,Bool.and_false,Bool.false_and]
      rw [hh] at hch
      simp only [push_cast,seval,-Nat.reducePow,j1,j3,j4,j7,jB,j11,j15,j16,j17]
      exact ⟨⟨by omega,by omega⟩,ds.length-(i+1),by omega,i+1,out,by omega,rfl,hch,rfl,by simp⟩
    | false =>
      have hc:=h184 q
      have hh:hitG g sp s old now q=concF q.sec old now:=by simp only [hitG,e1,e2,e3,decide_true,Bool.not_false,Bool.true_and]
      rw [hh] at hch
      simp only [Grd.v,e1,e2] at hc
      simp only [push_cast,seval,-Nat.reducePow,j1,j3,j4,j7,jB,j11,j15,j16,j17,q7]
      refine callK_intro hc (by simp only [push_cast,seval,-Nat.reducePow]) (by simp only [push_cast,seval,-Nat.reducePow]) ?_
      cases e4:concF q.sec old now with
      | false =>
        rw [e4] at hch
        simp only [push_cast,seval,-Nat.reducePow,j1,j3,j4,j7,jB,j11,j15,j16,j17]
        exact ⟨⟨by omega,by omega⟩,ds.length-(i+1),by omega,i+1,out,by omega,rfl,hch,rfl,by simp⟩
      | true =>
        rw [e4] at hch
        cases e5:q.st with
        | true =>
          rw [e5] at hch
          simp only [push_cast,seval,-Nat.reducePow,j1,j3,j4,j7,jB,j11,j15,j16,j17,e5,view]
          rw [hch]; rfl
        | false =>
          rw [e5] at hch
          simp only [push_cast,seval,-Nat.reducePow,j1,j3,j4,j7,jB,j11,j15,j16,j17,e5]
          exact ⟨⟨by omega,by omega⟩,ds.length-(i+1),by omega,i+1,2,by omega,rfl,hch,rfl,by simp⟩
   ·have hn:(decide (q.sp=sp)&&decide (q.n=s))=false:=by
     rw [Bool.and_eq_false_iff]
     by_cases a:q.sp=sp
     ·exact Or.inr (decide_eq_false fun b=>e1 ⟨a,b⟩)
     ·exact Or.inl (decide_eq_false a)
    have hh:hitG g sp s old now q=false:=by simp only [hitG,hn,Bool.false_and]
    rw [hh] at hch
    simp only [push_cast,seval,-Nat.reducePow,j1,j3,j4,j7,jB,j11,j15,j16,j17,h',hdl,hg,q7,hn]
    exact ⟨h,⟨by omega,by omega⟩,ds.length-(i+1),by omega,i+1,out,by omega,rfl,hch,rfl,by simp⟩
  ·have h':¬ ((i:Nat):Int)<((ds.length:Nat):Int):=by omega
   obtain rfl:i=ds.length:=by omega
   rw [List.drop_length,chgF] at hch
   simp only [push_cast,seval,-Nat.reducePow,j1,j3,j4,j7,jB,j11,j15,j16,j17,h',hch,view]
theorem t198 (hf:Is198 P F T) (g:List (List UInt8)) (old now:List UInt8) (h197:∀ q:Grd,PTr P (F 197) [q.v,.lst 1 (g.map .str),.str old,.str now] (.bool (!g.contains q.gr&&concF q.sec old now)))
 (gv:List V) (rs:List Rul) (ds:List Grd) (hgv:V.imms gv=true) (hds:ds.length≤2^60) (sp:Int) (s:List UInt8) :
 PTr P (F 198) [polV gv rs (gdV ds),.lst 1 (g.map .str),ttV sp s,.str old,.str now] (.int .i64 (chgF g sp s old now ds 1)):=by
 refine ptrC [] hf (by simp) rfl ?_
 have hri:=ruV_imm rs
 have hdi:=gdV_imm ds
 have hdl:=gdV_len ds
 have hgi:=imms_str g
 simp only [c198,push_cast,seval,-Nat.reducePow,polV,ttV,hgv,hri,hdi,hdl]
 refine loopK_intro (fun m s1=>∃ i out,i≤ds.length∧m=ds.length-i∧chgF g sp s old now ds 1=chgF g sp s old now (ds.drop i) out∧s1.env 1=.lst 1 (g.map .str)∧s1.env 3=.str old∧s1.env 4=.str now∧s1.env 7=.ptr 7 0∧s1.L 7=some (.box (T 17) [.int .i64 sp,.str s])∧s1.env 5=.ptr 5 0∧s1.L 5=some (.box (T 16) [.lst 2 gv,.lst 6 (ruV rs),.lst 5 (gdV ds)])∧s1.env 11=.int .i64 out∧s1.env 12=.int .i64 i∧8≤s1.nx) ds.length ⟨0,1,?_⟩ fun m s1 hJ=>?_
 ·simp only [push_cast,seval,-Nat.reducePow]
  rfl
 ·obtain ⟨i,out,hi,rfl,hch,j1,j3,j4,j7,jB,j5,jA,j11,j12,jn⟩:=hJ
  by_cases h:i<ds.length
  ·have h':((i:Nat):Int)<((ds.length:Nat):Int):=by omega
   obtain ⟨q,hq,hg⟩:=gdV_at h
   rw [drop_at hq,chgF] at hch
   have q7:7≠s1.nx+54:=by omega
   have q5:5≠s1.nx+54:=by omega
   by_cases e1:q.sp=sp∧q.n=s
   ·obtain ⟨e1,e2⟩:=e1
    simp only [push_cast,seval,-Nat.reducePow,j1,j3,j4,j7,jB,j5,jA,j11,j12,h',hdl,hg,q7,q5,hdl,e1,e2]
    have hc:=h197 q
    have hh:hitG g sp s old now q=(!g.contains q.gr&&concF q.sec old now):=by simp only [hitG,e1,e2,decide_true,Bool.true_and]
    rw [hh] at hch
    simp only [Grd.v,e1,e2] at hc
    refine ⟨h,callK_intro hc (by simp only [push_cast,seval,-Nat.reducePow,hgi]) (by simp only [push_cast,seval,-Nat.reducePow]) ?_⟩
    cases e4:(!g.contains q.gr&&concF q.sec old now) with
    | false =>
      rw [e4] at hch
      simp only [push_cast,seval,-Nat.reducePow,j1,j3,j4,j7,jB,j5,jA,j11,j12]
      exact ⟨⟨by omega,by omega⟩,ds.length-(i+1),by omega,i+1,out,by omega,rfl,hch,rfl,by simp⟩
    | true =>
      rw [e4] at hch
      cases e5:q.st with
      | true =>
        rw [e5] at hch
        simp only [push_cast,seval,-Nat.reducePow,j1,j3,j4,j7,jB,j5,jA,j11,j12,e5,view]
        rw [hch]; rfl
      | false =>
        rw [e5] at hch
        simp only [push_cast,seval,-Nat.reducePow,j1,j3,j4,j7,jB,j5,jA,j11,j12,e5]
        exact ⟨⟨by omega,by omega⟩,ds.length-(i+1),by omega,i+1,2,by omega,rfl,hch,rfl,by simp⟩
   ·have hn:(decide (q.sp=sp)&&decide (q.n=s))=false:=by
     rw [Bool.and_eq_false_iff]
     by_cases a:q.sp=sp
     ·exact Or.inr (decide_eq_false fun b=>e1 ⟨a,b⟩)
     ·exact Or.inl (decide_eq_false a)
    have hh:hitG g sp s old now q=false:=by simp only [hitG,hn,Bool.false_and]
    rw [hh] at hch
    simp only [push_cast,seval,-Nat.reducePow,j1,j3,j4,j7,jB,j5,jA,j11,j12,h',hdl,hg,q7,q5,hdl,hn]
    exact ⟨h,⟨by omega,by omega⟩,ds.length-(i+1),by omega,i+1,out,by omega,rfl,hch,rfl,by simp⟩
  ·have h':¬ ((i:Nat):Int)<((ds.length:Nat):Int):=by omega
   obtain rfl:i=ds.length:=by omega
   rw [List.drop_length,chgF] at hch
   simp only [push_cast,seval,-Nat.reducePow,j1,j3,j4,j7,jB,j5,jA,j11,j12,h',hdl,hch,view]
structure ChgC (P:Program) (F T:Nat→Nat):Prop where
 s1:SectC P (F 124)
 s2:SectC P (F 159)
 strc:StrC0 P F
 h128:Is128 P F T
 h129:Is129 P F T
 h125:Is125 P F T
 h138:Is138 P F T
 h132:Is132 P F T
 h141:Is141 P F T
 h183:Is183 P F T
 h184:Is184 P F T
 h179:Is179 P F T
 h220:Is220 P F T
 h222:Is222 P F T
 h193:Is193 P F T
 h196:Is196 P F T
 h197:Is197 P F T
 h198:Is198 P F T
theorem chg_ok (H:ChgC P F T) {g:List (List UInt8)} (hg:g.length≤2^60) (gv:List V) (rs:List Rul) (ds:List Grd) (hgv:V.imms gv=true) (hds:ds.length≤2^60) (sp:Int) (s old now:List UInt8) (ho:old.length≤900) (hn:now.length≤900) :
 PTr P (F 179) [polV gv rs (gdV ds),.lst 1 (g.map .str),ttV sp s,.str old,.str now] (.int .i64 (chgF g sp s old now ds 1)) :=
 t179 H.h179 g old now (fun x=>t220 H.h220 H.h222 g x hg) (fun q=>t184 H.h184 (fun s name hs=>t183 H.h183 H.s1 H.strc H.h128 H.h132 H.h141 s name hs) q old now ho hn) gv rs ds hgv hds sp s
theorem rchg_ok (H:ChgC P F T) {g:List (List UInt8)} (hg:g.length≤2^60) (gv:List V) (rs:List Rul) (ds:List Grd) (hgv:V.imms gv=true) (hds:ds.length≤2^60) (sp:Int) (s old now:List UInt8) (ho:old.length≤900) (hn:now.length≤900) :
 PTr P (F 198) [polV gv rs (gdV ds),.lst 1 (g.map .str),ttV sp s,.str old,.str now] (.int .i64 (chgF g sp s old now ds 1)) :=
 t198 H.h198 g old now (fun q=>t197 H.h197 H.h193 (fun s name hs=>t196 H.h196 H.s2 H.h129 H.h125 H.h138 s name hs) q g hg old now ho hn) gv rs ds hgv hds sp s
theorem law175 (hf:Is175 P F T) (h177:Is177 P F T) (M:ChgC P F T) (kn:PTr P (F 176) [] (.bool true)) (gs:List Gro) (rs:List Rul) (ds:List Grd) (g:List (List UInt8)) (sp:Int) (s old now:List UInt8) :
 PTr P (F 175) [polV (grV gs) rs (gdV ds),.lst 1 (g.map .str),ttV sp s,.str old,.str now] (.bool true):=by
 refine ptrC [] hf (by simp) rfl ?_
 have hgi:=grV_imm gs
 have hri:=ruV_imm rs
 have hdi:=gdV_imm ds
 have hsi:=imms_str g
 have hgl:(g.map V.str).length=g.length:=List.length_map ..
 have hlb:=t177 h177 gs rs (gdV ds) hdi
 have c1:g.length≤2^60→ds.length≤2^60→old.length≤900→now.length≤900→_:=fun a b c d=>chg_ok M (g:=g) a (grV gs) rs ds hgi b sp s old now c d
 have c2:g.length≤2^60→ds.length≤2^60→old.length≤900→now.length≤900→_:=fun a b c d=>rchg_ok M (g:=g) a (grV gs) rs ds hgi b sp s old now c d
 simp only [polV,ttV] at hlb c1 c2 ⊢
 simp only [c175,push_cast,seval,-Nat.reducePow,hgi,hri,hdi]
 refine callK_intro hlb (by simp only [push_cast,seval,-Nat.reducePow,hgi,hri,hdi]) (by simp only [push_cast,seval,-Nat.reducePow]) ?_
 cases hb:largeB gs rs (gdV ds) with
 | true =>
   simp only [push_cast,seval,-Nat.reducePow]
   refine callK_intro kn (by simp only [push_cast,seval,-Nat.reducePow]) (by simp only [push_cast,seval,-Nat.reducePow]) ?_
   simp only [push_cast,seval,-Nat.reducePow,view]
 | false =>
   have hd12:ds.length≤12:=by
    by_cases e:12<(gdV ds).length
    ·simp [largeB,e] at hb
    ·rw [gdV_len] at e; omega
   by_cases a1:20<g.length
   ·have a1':(20:Int)<((g.length:Nat):Int):=by omega
    simp only [push_cast,seval,-Nat.reducePow,hgl,a1']
    refine callK_intro kn (by simp only [push_cast,seval,-Nat.reducePow]) (by simp only [push_cast,seval,-Nat.reducePow]) ?_
    simp only [push_cast,seval,-Nat.reducePow,view]
   have a1':¬ (20:Int)<((g.length:Nat):Int):=by omega
   by_cases a2:300<old.length
   ·have a2':(300:Int)<((old.length:Nat):Int):=by omega
    simp only [push_cast,seval,-Nat.reducePow,hgl,a1',a2']
    refine callK_intro kn (by simp only [push_cast,seval,-Nat.reducePow]) (by simp only [push_cast,seval,-Nat.reducePow]) ?_
    simp only [push_cast,seval,-Nat.reducePow,view]
   have a2':¬ (300:Int)<((old.length:Nat):Int):=by omega
   by_cases a3:300<now.length
   ·have a3':(300:Int)<((now.length:Nat):Int):=by omega
    simp only [push_cast,seval,-Nat.reducePow,hgl,a1',a2',a3']
    refine callK_intro kn (by simp only [push_cast,seval,-Nat.reducePow]) (by simp only [push_cast,seval,-Nat.reducePow]) ?_
    simp only [push_cast,seval,-Nat.reducePow,view]
   have a3':¬ (300:Int)<((now.length:Nat):Int):=by omega
   simp only [push_cast,seval,-Nat.reducePow,hgl,a1',a2',a3']
   refine callK_intro (c1 (by omega) (by omega) (by omega) (by omega)) (by simp only [push_cast,seval,-Nat.reducePow,hgi,hri,hdi,hsi]) (by simp only [push_cast,seval,-Nat.reducePow]) ?_
   simp only [push_cast,seval,-Nat.reducePow]
   refine callK_intro (c2 (by omega) (by omega) (by omega) (by omega)) (by simp only [push_cast,seval,-Nat.reducePow,hgi,hri,hdi,hsi]) (by simp only [push_cast,seval,-Nat.reducePow]) ?_
   simp only [push_cast,seval,-Nat.reducePow,beq_self_eq_true]
   refine callK_intro kn (by simp only [push_cast,seval,-Nat.reducePow]) (by simp only [push_cast,seval,-Nat.reducePow]) ?_
   simp only [push_cast,seval,-Nat.reducePow,view]
end Go.Ab
