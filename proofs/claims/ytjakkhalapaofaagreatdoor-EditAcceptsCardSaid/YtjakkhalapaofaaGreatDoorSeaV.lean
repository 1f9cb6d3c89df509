/- Known results: the policies of two texts, the first state, the sanity check. No condition. -/
import Derived.Test.YtjakkhalapaofaaGreatDoorSeaA
set_option linter.unusedVariables false
namespace Go.Proofs.YtjakkhalapaofaaGreatDoor
open Go.RowKit Go.Ab Go.Lib
set_option maxRecDepth 1000000
def tx0:List UInt8:=[97,108,108,111,119,32,114,101,97,100,32,97,108,108,32,60,97,108,108,62,10,97,108,108,111,119,32,101,100,105,116,32,97,108,108,32,60,97,108,108,62,10,97,108,108,111,119,32,109,111,118,101,32,97,108,108,32,60,97,108,108,62,10,97,108,108,111,119,32,100,101,108,101,116,101,32,97,108,108,32,60,97,108,108,62,10,97,108,108,111,119,32,114,101,118,105,101,119,32,97,108,108,32,60,97,108,108,62,10]
def vp0:V:=.tup [.agg [.nils,.lst 6 [.agg [.bool true,.int .i64 1,.str [97,108,108],.int .i64 1,.int .i64 0,.str []],.agg [.bool true,.int .i64 2,.str [97,108,108],.int .i64 1,.int .i64 0,.str []],.agg [.bool true,.int .i64 3,.str [97,108,108],.int .i64 1,.int .i64 0,.str []],.agg [.bool true,.int .i64 4,.str [97,108,108],.int .i64 1,.int .i64 0,.str []],.agg [.bool true,.int .i64 5,.str [97,108,108],.int .i64 1,.int .i64 0,.str []]],.nils],.int .i64 0,.int .i64 0]
def vr0:V:=.tup [.agg [.nils,.lst 6 [.agg [.bool true,.int .i64 1,.str [97,108,108],.int .i64 1,.int .i64 0,.str []],.agg [.bool true,.int .i64 2,.str [97,108,108],.int .i64 1,.int .i64 0,.str []],.agg [.bool true,.int .i64 3,.str [97,108,108],.int .i64 1,.int .i64 0,.str []],.agg [.bool true,.int .i64 4,.str [97,108,108],.int .i64 1,.int .i64 0,.str []],.agg [.bool true,.int .i64 5,.str [97,108,108],.int .i64 1,.int .i64 0,.str []]],.nils],.int .i64 0,.int .i64 0]
def tx1:List UInt8:=[97,108,108,111,119,32,114,101,97,100,32,97,108,108,32,60,97,108,108,62,10,97,108,108,111,119,32,101,100,105,116,32,97,108,108,32,60,97,108,108,62,10,103,114,111,117,112,32,115,116,97,102,102,32,97,110,110,10,97,108,108,111,119,32,114,101,118,105,101,119,32,115,116,97,102,102,32,60,97,108,108,62,10,103,117,97,114,100,32,115,116,97,102,102,32,65]
def vp1:V:=.tup [.agg [.lst 2 [.agg [.str [115,116,97,102,102],.lst 1 [.str [97,110,110]]]],.lst 6 [.agg [.bool true,.int .i64 1,.str [97,108,108],.int .i64 1,.int .i64 0,.str []],.agg [.bool true,.int .i64 2,.str [97,108,108],.int .i64 1,.int .i64 0,.str []],.agg [.bool true,.int .i64 5,.str [115,116,97,102,102],.int .i64 1,.int .i64 0,.str []]],.lst 5 [.agg [.bool false,.str [115,116,97,102,102],.int .i64 0,.str [65],.str []]]],.int .i64 0,.int .i64 0]
def vr1:V:=.tup [.agg [.lst 2 [.agg [.str [115,116,97,102,102],.lst 1 [.str [97,110,110]]]],.lst 6 [.agg [.bool true,.int .i64 1,.str [97,108,108],.int .i64 1,.int .i64 0,.str []],.agg [.bool true,.int .i64 2,.str [97,108,108],.int .i64 1,.int .i64 0,.str []],.agg [.bool true,.int .i64 5,.str [115,116,97,102,102],.int .i64 1,.int .i64 0,.str []]],.lst 5 [.agg [.bool false,.str [115,116,97,102,102],.int .i64 0,.str [65],.str []]]],.int .i64 0,.int .i64 0]
def vz1:V:=.agg [.int .i64 1,.int .i64 0,.lst 3 [.agg [.int .i64 5,.str [80,111,108,105,99,121],.lst 6 [.agg [.int .i64 1,.str [],.str [],.str [97,108,108,111,119,32,114,101,97,100,32,97,108,108,32,60,97,108,108,62,10,97,108,108,111,119,32,101,100,105,116,32,97,108,108,32,60,97,108,108,62,10,103,114,111,117,112,32,115,116,97,102,102,32,97,110,110,10,97,108,108,111,119,32,114,101,118,105,101,119,32,115,116,97,102,102,32,60,97,108,108,62,10,103,117,97,114,100,32,115,116,97,102,102,32,65],.int .i64 0,.int .i64 1]]]],.nils,.nils,.int .i64 0,.nils,.nils]
def z0:Inp:=⟨[],[],0⟩
def l0:List (Nat×(List V→Option V)):=pbL true 0
theorem l0_ok:∀ x,x∈l0→BiOk Tryz.prog (sg z0) x.1 x.2:=pbL_ok (by decide) (fun _=>rfl)
theorem nf:true=false→bodyF z0.a≠bodyF z0.b:=fun h=>by cases h
theorem mp0:PTr Tryz.prog 57 [.str tx0] vp0:=by
 have h:=evB_ok nf l0_ok (show evB true l0 57 [.str tx0]=some vp0 by kernel_rfl)
 rw [pl_cz vp0 (by kernel_rfl)] at h
 exact h
theorem mr0:PTr Tryz.prog 82 [.str tx0] vr0:=by
 have h:=evB_ok nf l0_ok (show evB true l0 82 [.str tx0]=some vr0 by kernel_rfl)
 rw [pl_cz vr0 (by kernel_rfl)] at h
 exact h
theorem bp0 (σ:Sy):BiOk Tryz.prog σ 57 (biMem tx0 vp0):=bi_mem (by rw [pl_cz vp0 (by kernel_rfl)]; exact mp0)
theorem br0 (σ:Sy):BiOk Tryz.prog σ 82 (biMem tx0 vr0):=bi_mem (by rw [pl_cz vr0 (by kernel_rfl)]; exact mr0)
theorem mp1:PTr Tryz.prog 57 [.str tx1] vp1:=by
 have h:=evB_ok nf l0_ok (show evB true l0 57 [.str tx1]=some vp1 by kernel_rfl)
 rw [pl_cz vp1 (by kernel_rfl)] at h
 exact h
theorem mr1:PTr Tryz.prog 82 [.str tx1] vr1:=by
 have h:=evB_ok nf l0_ok (show evB true l0 82 [.str tx1]=some vr1 by kernel_rfl)
 rw [pl_cz vr1 (by kernel_rfl)] at h
 exact h
theorem bp1 (σ:Sy):BiOk Tryz.prog σ 57 (biMem tx1 vp1):=bi_mem (by rw [pl_cz vp1 (by kernel_rfl)]; exact mp1)
theorem br1 (σ:Sy):BiOk Tryz.prog σ 82 (biMem tx1 vr1):=bi_mem (by rw [pl_cz vr1 (by kernel_rfl)]; exact mr1)
def lA:List (Nat×(List V→Option V)):=(57,biMem tx0 vp0)::(82,biMem tx0 vr0)::l0
theorem lA_ok:∀ x,x∈lA→BiOk Tryz.prog (sg z0) x.1 x.2:=List.forall_mem_cons.2 ⟨bp0 _,List.forall_mem_cons.2 ⟨br0 _,l0_ok⟩⟩
theorem maw:PTr Tryz.prog 9 [] (.bool true):=evB_ok nf lA_ok (show evB true lA 9 []=some (.bool true) by kernel_rfl)
def lB (eq:Bool) (k:Int):List (Nat×(List V→Option V)):=(57,biMem tx1 vp1)::(82,biMem tx1 vr1)::(9,biTru)::pbL eq k
theorem lB_ok {z:Inp} {eq:Bool} {k:Int} (hk:rndN z.who 3=k) (he:eq=true→bodyF z.b=bodyF z.a):∀ x,x∈lB eq k→BiOk Tryz.prog (sg z) x.1 x.2 :=
 List.forall_mem_cons.2 ⟨bp1 _,List.forall_mem_cons.2 ⟨br1 _,List.forall_mem_cons.2 ⟨bi_tru maw,pbL_ok hk he⟩⟩⟩
theorem mz1:PTr Tryz.prog 15 [.str tx1] vz1:=by
 have h:=evB_ok nf (lB_ok (z:=z0) (k:=0) (by decide) (fun _=>rfl)) (show evB true (lB true 0) 15 [.str tx1]=some vz1 by kernel_rfl)
 rw [pl_cz vz1 (by kernel_rfl)] at h
 exact h
theorem bz1 (σ:Sy):BiOk Tryz.prog σ 15 (biMem tx1 vz1):=bi_mem (by rw [pl_cz vz1 (by kernel_rfl)]; exact mz1)
def lC (eq:Bool) (k:Int):List (Nat×(List V→Option V)):=(15,biMem tx1 vz1)::lB eq k
theorem lC_ok {z:Inp} {eq:Bool} {k:Int} (hk:rndN z.who 3=k) (he:eq=true→bodyF z.b=bodyF z.a):∀ x,x∈lC eq k→BiOk Tryz.prog (sg z) x.1 x.2:=List.forall_mem_cons.2 ⟨bz1 _,lB_ok hk he⟩
end Go.Proofs.YtjakkhalapaofaaGreatDoor
