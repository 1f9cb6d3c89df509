/- Several texts of one kind, merged. No condition. -/
import Derived.Test.YtcmnepgnkcoiiaaGreatDoorAbR8
import Derived.Lib.SlTrimSet
import Derived.Test.YtcmnepgnkcoiiaaGreatDoorAbR1
import Derived.KernelRfl
set_option linter.unusedSimpArgs false
set_option linter.unusedVariables false
namespace Go.Ab
def wsp:List UInt8:=[32,9]
def plainF (l:List Node):List Bool:=l.flatMap fun n=>List.replicate n.src.length (decide (n.kind=1))
theorem plainF_len:∀ l:List Node,(plainF l).length=(srcs l).length
 | []=>by simp [plainF,srcs]
 | n::r=>by
   have ih:=plainF_len r
   simp only [plainF] at ih
   simp [plainF,srcs,ih]
def headF (s:List UInt8):Option (Nat×List UInt8) :=
 if runL 61 (Go.Lib.trimRightS s wsp)=0∨runL 61 (Go.Lib.trimRightS s wsp).reverse=0∨runL 61 (Go.Lib.trimRightS s wsp)=(Go.Lib.trimRightS s wsp).length then none
 else
  if Go.Lib.trimS (((Go.Lib.trimRightS s wsp).take ((Go.Lib.trimRightS s wsp).length-min 6 (min (runL 61 (Go.Lib.trimRightS s wsp)) (runL 61 (Go.Lib.trimRightS s wsp).reverse)))).drop (min 6 (min (runL 61 (Go.Lib.trimRightS s wsp)) (runL 61 (Go.Lib.trimRightS s wsp).reverse)))) wsp=[] then none
  else some (min 6 (min (runL 61 (Go.Lib.trimRightS s wsp)) (runL 61 (Go.Lib.trimRightS s wsp).reverse)),Go.Lib.trimS (((Go.Lib.trimRightS s wsp).take ((Go.Lib.trimRightS s wsp).length-min 6 (min (runL 61 (Go.Lib.trimRightS s wsp)) (runL 61 (Go.Lib.trimRightS s wsp).reverse)))).drop (min 6 (min (runL 61 (Go.Lib.trimRightS s wsp)) (runL 61 (Go.Lib.trimRightS s wsp).reverse)))) wsp)
structure Sec where
 lev:Nat
 title:List UInt8
 fr:Nat
 bd:Nat
 to:Nat
def lineL:List UInt8→Nat
 | []=>0
 | x::r=>if x=10 then 0 else lineL r+1
theorem lineL_le:∀ s:List UInt8,lineL s≤s.length
 | []=>Nat.le_refl _
 | x::r=>by
   have:=lineL_le r
   simp only [lineL,List.length_cons]
   split <;> omega
def lineE (s:List UInt8) (i:Nat):Nat:=i+lineL (s.drop i)
theorem lineE_le {s:List UInt8} {i:Nat} (h:i≤s.length):i≤lineE s i∧lineE s i≤s.length:=by
 have:=lineL_le (s.drop i)
 rw [List.length_drop] at this
 unfold lineE
 omega
def secAt (s:List UInt8) (p:List Bool) (i:Nat):List Sec :=
 if ((p.take (lineE s i)).drop i).all id then
  match headF ((s.take (lineE s i)).drop i) with
  | some (k,t)=>[⟨k,t,i,min (lineE s i+1) s.length,s.length⟩]
  | none=>[]
 else []
def rawF (s:List UInt8) (p:List Bool):Nat→Nat→List Sec
 | 0,_=>[]
 | n+1,i=>if i<s.length then secAt s p i++rawF s p n (min (lineE s i+1) s.length) else []
def toOf (x:Sec) (r:List Sec):Sec:={ x with to:=match r.find? (fun y=>decide (y.lev≤x.lev)) with | some y=>y.fr | none=>x.to }
def toF:List Sec→List Sec
 | []=>[]
 | x::r=>toOf x r::toF r
def sectF (s:List UInt8):List Sec:=toF (rawF s (plainF (parseF s)) (s.length+1) 0)
def Sec.v (x:Sec):V:=.agg [.int .i64 x.lev,.str x.title,.int .i64 x.fr,.int .i64 x.bd,.int .i64 x.to]
def secV (l:List Sec):List V:=l.map Sec.v
end Go.Ab
namespace Go.Ab
theorem lineL_no:∀ {s:List UInt8} {j:Nat},j<lineL s→∃ b,s[j]?=some b∧b≠10
 | [],j,h=>by simp [lineL] at h
 | x::r,j,h=>by
   by_cases hx:x=10
   ·subst hx; simp [lineL] at h
   ·have e:lineL (x::r)=lineL r+1:=by simp [lineL,hx]
    rw [e] at h
    cases j with
    | zero=>exact ⟨x,by simp,hx⟩
    | succ j =>
      rw [List.getElem?_cons_succ]
      exact lineL_no (by omega)
theorem headF_nil:headF []=none:=by decide
theorem rawF_none {s:List UInt8} {p:List Bool} (hp:p.length=s.length) (h:∀ (j:Nat),p[j]?=some true→s[j]?=some 10):∀ (n i:Nat),rawF s p n i=[]
 | 0,_=>rfl
 | n+1,i=>by
   simp only [rawF]
   by_cases hi:i<s.length
   ·rw [if_pos hi,rawF_none hp h n,List.append_nil,secAt]
    have hle:=lineE_le (s:=s) (i:=i) (by omega)
    by_cases he:lineE s i=i
    ·rw [he]
     have e:List.drop i (List.take i s)=[]:=by simp
     rw [e,headF_nil]
     split <;> rfl
    ·have hlt:0<lineL (s.drop i):=by unfold lineE at he; omega
     obtain ⟨b,hb,hb2⟩:=lineL_no hlt
     rw [List.getElem?_drop] at hb
     have hpi:p[i]?=some false:=by
      have h1:i<p.length:=by omega
      cases hc:p[i] with
      | true =>
        have h2:=h i (by rw [List.getElem?_eq_getElem h1,hc])
        rw [show i+0=i from rfl] at hb
        rw [h2] at hb
        cases hb
        exact absurd rfl hb2
      | false=>rw [List.getElem?_eq_getElem h1,hc]
     rw [if_neg]
     intro hall
     have hm:false∈(p.take (lineE s i)).drop i:=by
      refine List.mem_of_getElem? (i:=0) ?_
      rw [List.getElem?_drop,List.getElem?_take_of_lt (by omega)]
      exact hpi
     have:=List.all_eq_true.1 hall false hm
     simp at this
   ·rw [if_neg hi]
theorem sect_none {s:List UInt8} {n:Node} (hp:parseF s=[n]) (hk:n.kind≠1):sectF s=[]:=by
 have h:rawF s (plainF (parseF s)) (s.length+1) 0=[]:=by
  refine rawF_none (by rw [plainF_len,srcs_parseF]) (fun j hj=>?_) _ _
  exfalso
  rw [hp] at hj
  have:true∈plainF [n]:=List.mem_of_getElem? hj
  simp [plainF,hk] at this
 rw [sectF,h]; rfl
end Go.Ab
namespace Go.Ab
def c138 (F T:Nat→Nat):C :=
 .seq (.ops false [⟨none,[.mov (some 2) (.k (.str []))]⟩]) <|
 .seq (.block 0 <|
 .loop <|
 .seq (.seq (.ops false [⟨none,[.mov (some 3) (.t 0),.len (some 4) true (.t 3),.bin (some 5) .gtr (.t 4) (.k (.int .i64 0)),.mov (some 6) (.t 5)]⟩,
 ⟨some (6,true),[.mov (some 7) (.t 0),.mov (some 8) (.t 0),.len (some 9) true (.t 8),.bin (some 10) .sub (.t 9) (.k (.int .i64 1)),.idx (some 11) (.t 7) (.t 10),.bin (some 12) .eql (.t 11) (.k (.int .u8 9)),.mov (some 13) (.t 12)]⟩,
 ⟨some (13,false),[.mov (some 14) (.t 0),.mov (some 15) (.t 0),.len (some 16) true (.t 15),.bin (some 17) .sub (.t 16) (.k (.int .i64 1)),.idx (some 18) (.t 14) (.t 17),.bin (some 19) .eql (.t 18) (.k (.int .u8 32))]⟩,
 ⟨some (6,true),[.pick (some 20) (.t 13) (.k (.bool true)) (.t 19)]⟩,
 ⟨none,[.pick (some 21) (.t 6) (.t 20) (.k (.bool false))]⟩]) <|
 .cond (.t 21)
 (.skip)
 (.exit 0)) <|
 .block 1 <|
 .ops false [⟨none,[.mov (some 22) (.t 0),.mov (some 23) (.t 0),.len (some 24) true (.t 23),.bin (some 25) .sub (.t 24) (.k (.int .i64 1)),.slcS (some 26) (.t 22) none (some (.t 25)),.mov (some 0) (.t 26)]⟩]) <|
 .seq (.ops false [⟨none,[.mov (some 27) (.t 0),.mov (some 2) (.t 27)]⟩]) <|
 .ret
abbrev Is138 (P:Program) (F T:Nat→Nat):Prop:=Fn P (F 138) 28 [(2,none)] (c138 F T)
def c139 (F T:Nat→Nat):C :=
 .seq (.ops false [⟨none,[.mov (some 4) (.k (.bool false))]⟩]) <|
 .seq (.seq (.ops false [⟨none,[.mov (some 6) (.t 0),.len (some 7) false (.t 6),.mov (some 8) (.t 1),.len (some 9) false (.t 8),.bin (some 10) .neq (.t 7) (.t 9)]⟩]) <|
 .cond (.t 10)
 (.seq (.ops false [⟨none,[.mov (some 4) (.k (.bool false))]⟩]) <|
 .ret)
 (.skip)) <|
 .seq (.seq (.ops false [⟨none,[.mov (some 5) (.k (.int .i64 0))]⟩]) <|
 .block 0 <|
 .loop <|
 .seq (.seq (.ops false [⟨none,[.mov (some 11) (.t 5),.mov (some 12) (.t 0),.len (some 13) false (.t 12),.bin (some 14) .lss (.t 11) (.t 13)]⟩]) <|
 .cond (.t 14)
 (.skip)
 (.exit 0)) <|
 .seq (.block 1 <|
 .seq (.ops true [⟨none,[.mov (some 17) (.t 0),.mov (some 18) (.t 5),.iadr (some 19) 5 (.t 17) (.t 18),.load (some 20) false 5 true (.t 19),.mov (some 21) (.t 1),.mov (some 22) (.t 5),.iadr (some 23) 5 (.t 21) (.t 22),.load (some 24) false 5 true (.t 23),.eqA (some 25) true [0,1,0,0,0] (.t 20) (.t 24)]⟩]) <|
 .cond (.t 25)
 (.seq (.ops false [⟨none,[.mov (some 4) (.k (.bool false))]⟩]) <|
 .ret)
 (.skip)) <|
 .ops false [⟨none,[.mov (some 15) (.t 5),.bin (some 16) .add (.t 15) (.k (.int .i64 1)),.mov (some 5) (.t 16)]⟩]) <|
 .seq (.ops false [⟨none,[.mov (some 4) (.k (.bool true))]⟩]) <|
 .ret
abbrev Is139 (P:Program) (F T:Nat→Nat):Prop:=Fn P (F 139) 26 [(4,none)] (c139 F T)
end Go.Ab
namespace Go.Ab
variable {P:Program} {F T:Nat→Nat}
open Go.Lib
theorem wsp_mem (x:UInt8):wsp.contains x=true↔(x.toNat=9∨x.toNat=32):=by
 have h:∀ n:Nat,n<256→(x.toNat=n↔x=UInt8.ofNat n):=fun n hn=>⟨fun e=>by rw [← e]; simp,fun e=>by rw [e]; simp; omega⟩
 rw [h 9 (by omega),h 32 (by omega)]
 simp only [wsp,List.contains_cons,List.contains_nil,Bool.or_false,Bool.or_eq_true,beq_iff_eq]
 exact or_comm
theorem right_step {s:List UInt8} (h:0<s.length):trimRightS s wsp=if (s.getD (s.length-1) 0).toNat=9∨(s.getD (s.length-1) 0).toNat=32 then trimRightS (s.take (s.length-1)) wsp else s:=by
 obtain ⟨u,x,rfl⟩:∃ u x,s=u++[x]:=by
  rcases List.eq_nil_or_concat s with rfl | ⟨u,x,rfl⟩
  ·simp at h
  ·exact ⟨u,x,by simp⟩
 have e1:(u++[x]).getD ((u++[x]).length-1) 0=x:=by simp
 have e2:(u++[x]).take ((u++[x]).length-1)=u:=by simp
 rw [e1,e2]
 by_cases hx:wsp.contains x=true
 ·rw [if_pos ((wsp_mem x).1 hx)]
  simp only [trimRightS,List.reverse_append,List.reverse_cons,List.reverse_nil,List.nil_append,List.cons_append,List.dropWhile,hx]
 ·rw [if_neg (fun q=>hx ((wsp_mem x).2 q))]
  have hx':wsp.contains x=false:=by simpa using hx
  simp only [trimRightS,List.reverse_append,List.reverse_cons,List.reverse_nil,List.nil_append,List.cons_append,List.dropWhile,hx',List.reverse_reverse]
theorem t138 (hf:Is138 P F T) (s:List UInt8) (hs:s.length≤9223372036854775807):PTr P (F 138) [.str s] (.str (trimRightS s wsp)):=by
 refine ptrC [] hf (by simp) rfl ?_
 simp only [c138,push_cast,seval,-Nat.reducePow]
 refine loopK_intro (fun m s1=>∃ t,m=t.length∧t.length≤9223372036854775807∧trimRightS t wsp=trimRightS s wsp∧s1.env 0=.str t) s.length ⟨s,?_⟩ fun m s1 hJ=>?_
 ·simp only [push_cast,seval,-Nat.reducePow]
  exact hs
 ·obtain ⟨t,rfl,hl,ht,j0⟩:=hJ
  by_cases h0:0<t.length
  ·have h0':(0:Int)<(t.length:Nat):=by omega
   have hst:=right_step h0
   have e1:(((t.length:Nat):Int)-1).toNat=t.length-1:=by omega
   have e2:(t.take (t.length-1)).length=t.length-1:=by rw [List.length_take]; omega
   obtain ⟨x,hx⟩:∃ x,t.getD (t.length-1) 0=x:=⟨_,rfl⟩
   rw [hx] at hst
   by_cases h9:x.toNat=9
   ·have h9':((x.toNat:Nat):Int)=9:=by omega
    rw [if_pos (.inl h9)] at hst
    simp only [push_cast,seval,-Nat.reducePow,j0,h0',e1,hx,h9']
    repeat refine And.intro (by omega) ?_
    exact ⟨t.length-1,by omega,t.take (t.length-1),e2.symm,by omega,by rw [← hst]; exact ht,rfl⟩
   ·have h9':¬ ((x.toNat:Nat):Int)=9:=by omega
    by_cases h32:x.toNat=32
    ·have h32':((x.toNat:Nat):Int)=32:=by omega
     rw [if_pos (.inr h32)] at hst
     simp only [push_cast,seval,-Nat.reducePow,j0,h0',e1,hx,h9',h32']
     repeat refine And.intro (by omega) ?_
     exact ⟨t.length-1,by omega,t.take (t.length-1),e2.symm,by omega,by rw [← hst]; exact ht,rfl⟩
    ·have h32':¬ ((x.toNat:Nat):Int)=32:=by omega
     rw [if_neg (by omega)] at hst
     simp only [push_cast,seval,-Nat.reducePow,j0,h0',e1,hx,h9',h32']
     repeat refine And.intro (by omega) ?_
     rw [← ht,hst]; rfl
  ·have h0':¬ (0:Int)<(t.length:Nat):=by omega
   have:t=[]:=List.eq_nil_of_length_eq_zero (by omega)
   subst this
   simp only [push_cast,seval,-Nat.reducePow,j0]
   rw [← ht]; rfl
end Go.Ab
namespace Go.Ab
variable {P:Program} {F T:Nat→Nat}
open Go.Lib
def hdT (s:List UInt8):List UInt8:=trimRightS s wsp
def hdBad (s:List UInt8):Prop:=runL 61 (hdT s)=0∨runL 61 (hdT s).reverse=0∨runL 61 (hdT s)=(hdT s).length
instance (s:List UInt8):Decidable (hdBad s):=by unfold hdBad; infer_instance
end Go.Ab
namespace Go.Ab
variable {P:Program} {F T:Nat→Nat}
theorem view_own1 {L:Heap} {i ty z sz n:Nat} {es:List V} (h:L i=some (.vec ty z es)) (hi:V.imms es=true) (hn:n=es.length):view L 3 (.own i sz 0 n)=.lst sz es:=by
 subst hn
 simp only [view,h,Nat.zero_add,Nat.le_refl,if_true,List.drop_zero,List.take_length]
 rw [show es.map (view L 2)=es.map id from List.map_congr_left fun x hx=>view_imm 2 x (imms_mem hi hx),List.map_id]
end Go.Ab
namespace Go.Ab
variable {P:Program} {F T:Nat→Nat}
open Go.Lib
theorem secV_len (l:List Sec):(secV l).length=l.length:=by simp [secV]
theorem secV_imm:∀ l:List Sec,V.imms (secV l)=true
 | []=>rfl
 | x::r=>by simp [secV,V.imms,V.imm,Sec.v]; exact secV_imm r
end Go.Ab
namespace Go.Ab
variable {P:Program} {F T:Nat→Nat}
open Go.Lib
theorem t139 (hf:Is139 P F T) (l:List Sec) (hl:l.length≤100000):PTr P (F 139) [.lst 5 (secV l),.lst 5 (secV l)] (.bool true):=by
 refine ptrC [] hf (by simp [secV_imm]) rfl ?_
 have hlen:=secV_len l
 simp only [c139,push_cast,seval,-Nat.reducePow]
 refine loopK_intro (fun m s1=>∃ i,i≤l.length∧m=l.length-i∧s1.env 0=.lst 5 (secV l)∧s1.env 1=.lst 5 (secV l)∧s1.env 5=.int .i64 i) l.length ⟨0,?_⟩ fun m s1 hJ=>?_
 ·simp only [push_cast,seval,-Nat.reducePow]
  omega
 ·obtain ⟨i,hi,rfl,j0,j1,j5⟩:=hJ
  by_cases h:i<l.length
  ·have h':((i:Nat):Int)<((secV l).length:Nat):=by omega
   have hx:(secV l).getD i .junk=(l[i]).v:=by simp [secV,List.getD,h]
   obtain ⟨lv,ti,fr,bd,to⟩:=l[i]
   simp only [Sec.v] at hx
   simp only [push_cast,seval,-Nat.reducePow,j0,j1,j5,h',hx]
   refine ⟨by omega,by omega,by omega,l.length-(i+1),by omega,i+1,by omega,rfl,by simp⟩
  ·have h':¬ ((i:Nat):Int)<((secV l).length:Nat):=by omega
   simp only [push_cast,seval,-Nat.reducePow,j0,j1,j5,h',view]
end Go.Ab
