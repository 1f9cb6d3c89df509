/- Known results: the policy of the text, the sanity check. No condition. -/
import Derived.Test.YtdnhjbdnebokiaaGreatDoorSeaA
set_option linter.unusedVariables false
namespace Go.Proofs.YtdnhjbdnebokiaaGreatDoor
open Go.RowKit Go.Ab Go.Lib
set_option maxRecDepth 1000000
def tx0:List UInt8:=[97,108,108,111,119,32,114,101,97,100,32,97,108,108,32,60,97,108,108,62,10,97,108,108,111,119,32,101,100,105,116,32,97,108,108,32,60,97,108,108,62,10,97,108,108,111,119,32,109,111,118,101,32,97,108,108,32,60,97,108,108,62,10,97,108,108,111,119,32,100,101,108,101,116,101,32,97,108,108,32,60,97,108,108,62,10,97,108,108,111,119,32,114,101,118,105,101,119,32,97,108,108,32,60,97,108,108,62,10]
def vp0:V:=.tup [.agg [.nils,.lst 6 [.agg [.bool true,.int .i64 1,.str [97,108,108],.int .i64 1,.int .i64 0,.str []],.agg [.bool true,.int .i64 2,.str [97,108,108],.int .i64 1,.int .i64 0,.str []],.agg [.bool true,.int .i64 3,.str [97,108,108],.int .i64 1,.int .i64 0,.str []],.agg [.bool true,.int .i64 4,.str [97,108,108],.int .i64 1,.int .i64 0,.str []],.agg [.bool true,.int .i64 5,.str [97,108,108],.int .i64 1,.int .i64 0,.str []]],.nils],.int .i64 0,.int .i64 0]
def vr0:V:=.tup [.agg [.nils,.lst 6 [.agg [.bool true,.int .i64 1,.str [97,108,108],.int .i64 1,.int .i64 0,.str []],.agg [.bool true,.int .i64 2,.str [97,108,108],.int .i64 1,.int .i64 0,.str []],.agg [.bool true,.int .i64 3,.str [97,108,108],.int .i64 1,.int .i64 0,.str []],.agg [.bool true,.int .i64 4,.str [97,108,108],.int .i64 1,.int .i64 0,.str []],.agg [.bool true,.int .i64 5,.str [97,108,108],.int .i64 1,.int .i64 0,.str []]],.nils],.int .i64 0,.int .i64 0]
def vz0:V:=.agg [.int .i64 1,.int .i64 0,.lst 3 [.agg [.int .i64 5,.str [80,111,108,105,99,121],.lst 6 [.agg [.int .i64 1,.str [],.str [],.str [97,108,108,111,119,32,114,101,97,100,32,97,108,108,32,60,97,108,108,62,10,97,108,108,111,119,32,101,100,105,116,32,97,108,108,32,60,97,108,108,62,10,97,108,108,111,119,32,109,111,118,101,32,97,108,108,32,60,97,108,108,62,10,97,108,108,111,119,32,100,101,108,101,116,101,32,97,108,108,32,60,97,108,108,62,10,97,108,108,111,119,32,114,101,118,105,101,119,32,97,108,108,32,60,97,108,108,62,10],.int .i64 0,.int .i64 1]]]],.nils,.nils,.int .i64 0,.nils,.nils]
def z0:Inp:=⟨[],[],[],[]⟩
def l0:List (Nat×(List V→Option V)):=pbL true true
theorem bGz:∀ x,x∈l0→BiOk Tryz.prog (sg z0) x.1 x.2:=bE0 (fun _=>rfl)
theorem nf:true=false→if true=true then bdyF z0.b≠bdyF z0.d else bdyF z0.a≠bdyF z0.c:=fun h=>by cases h
theorem mp0:PTr Tryz.prog 37 [.str tx0] vp0:=by
 have h:=aH9 nf bGz (show evB true true l0 37 [.str tx0]=some vp0 by kernel_rfl)
 rw [aL3 vp0 (by kernel_rfl)] at h
 exact h
theorem mr0:PTr Tryz.prog 54 [.str tx0] vr0:=by
 have h:=aH9 nf bGz (show evB true true l0 54 [.str tx0]=some vr0 by kernel_rfl)
 rw [aL3 vr0 (by kernel_rfl)] at h
 exact h
theorem bp0 (σ:Sy):BiOk Tryz.prog σ 37 (aKt tx0 vp0):=aV6 (by rw [aL3 vp0 (by kernel_rfl)]; exact mp0)
theorem br0 (σ:Sy):BiOk Tryz.prog σ 54 (aKt tx0 vr0):=aV6 (by rw [aL3 vr0 (by kernel_rfl)]; exact mr0)
def lA:List (Nat×(List V→Option V)):=(37,aKt tx0 vp0)::(54,aKt tx0 vr0)::l0
theorem bKw:∀ x,x∈lA→BiOk Tryz.prog (sg z0) x.1 x.2:=List.forall_mem_cons.2 ⟨bp0 _,List.forall_mem_cons.2 ⟨br0 _,bGz⟩⟩
theorem maw:PTr Tryz.prog 7 [] (.bool true):=aH9 nf bKw (show evB true true lA 7 []=some (.bool true) by kernel_rfl)
theorem mz0:PTr Tryz.prog 10 [.str tx0] vz0:=by
 have h:=aH9 nf bKw (show evB true true lA 10 [.str tx0]=some vz0 by kernel_rfl)
 rw [aL3 vz0 (by kernel_rfl)] at h
 exact h
theorem bz0 (σ:Sy):BiOk Tryz.prog σ 10 (aKt tx0 vz0):=aV6 (by rw [aL3 vz0 (by kernel_rfl)]; exact mz0)
def lC (eq fi:Bool):List (Nat×(List V→Option V)):=(10,aKt tx0 vz0)::(37,aKt tx0 vp0)::(54,aKt tx0 vr0)::(7,biTru)::pbL eq fi
theorem bDu {z:Inp} {eq fi:Bool} (he:eq=true→if fi=true then bdyF z.d=bdyF z.b else bdyF z.c=bdyF z.a):∀ x,x∈lC eq fi→BiOk Tryz.prog (sg z) x.1 x.2 :=
 List.forall_mem_cons.2 ⟨bz0 _,List.forall_mem_cons.2 ⟨bp0 _,List.forall_mem_cons.2 ⟨br0 _,List.forall_mem_cons.2 ⟨bJd maw,bE0 he⟩⟩⟩⟩
end Go.Proofs.YtdnhjbdnebokiaaGreatDoor
