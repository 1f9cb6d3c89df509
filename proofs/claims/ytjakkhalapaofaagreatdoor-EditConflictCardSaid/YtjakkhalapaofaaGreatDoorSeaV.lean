/- Known results: the policy of the text, the sanity check. No condition. -/
import Derived.Test.YtjakkhalapaofaaGreatDoorSeaA
set_option linter.unusedVariables false
namespace Go.Proofs.YtjakkhalapaofaaGreatDoor
open Go.RowKit Go.Ab Go.Lib
set_option maxRecDepth 1000000
def tx0:List UInt8:=[97,108,108,111,119,32,114,101,97,100,32,97,108,108,32,60,97,108,108,62,10,97,108,108,111,119,32,101,100,105,116,32,97,108,108,32,60,97,108,108,62,10,97,108,108,111,119,32,109,111,118,101,32,97,108,108,32,60,97,108,108,62,10,97,108,108,111,119,32,100,101,108,101,116,101,32,97,108,108,32,60,97,108,108,62,10,97,108,108,111,119,32,114,101,118,105,101,119,32,97,108,108,32,60,97,108,108,62,10]
def vp0:V:=.tup [.agg [.nils,.lst 6 [.agg [.bool true,.int .i64 1,.str [97,108,108],.int .i64 1,.int .i64 0,.str []],.agg [.bool true,.int .i64 2,.str [97,108,108],.int .i64 1,.int .i64 0,.str []],.agg [.bool true,.int .i64 3,.str [97,108,108],.int .i64 1,.int .i64 0,.str []],.agg [.bool true,.int .i64 4,.str [97,108,108],.int .i64 1,.int .i64 0,.str []],.agg [.bool true,.int .i64 5,.str [97,108,108],.int .i64 1,.int .i64 0,.str []]],.nils],.int .i64 0,.int .i64 0]
def vr0:V:=.tup [.agg [.nils,.lst 6 [.agg [.bool true,.int .i64 1,.str [97,108,108],.int .i64 1,.int .i64 0,.str []],.agg [.bool true,.int .i64 2,.str [97,108,108],.int .i64 1,.int .i64 0,.str []],.agg [.bool true,.int .i64 3,.str [97,108,108],.int .i64 1,.int .i64 0,.str []],.agg [.bool true,.int .i64 4,.str [97,108,108],.int .i64 1,.int .i64 0,.str []],.agg [.bool true,.int .i64 5,.str [97,108,108],.int .i64 1,.int .i64 0,.str []]],.nils],.int .i64 0,.int .i64 0]
def vz0:V:=.agg [.int .i64 1,.int .i64 0,.lst 3 [.agg [.int .i64 5,.str [80,111,108,105,99,121],.lst 6 [.agg [.int .i64 1,.str [],.str [],.str [97,108,108,111,119,32,114,101,97,100,32,97,108,108,32,60,97,108,108,62,10,97,108,108,111,119,32,101,100,105,116,32,97,108,108,32,60,97,108,108,62,10,97,108,108,111,119,32,109,111,118,101,32,97,108,108,32,60,97,108,108,62,10,97,108,108,111,119,32,100,101,108,101,116,101,32,97,108,108,32,60,97,108,108,62,10,97,108,108,111,119,32,114,101,118,105,101,119,32,97,108,108,32,60,97,108,108,62,10],.int .i64 0,.int .i64 1]]]],.nils,.nils,.int .i64 0,.nils,.nils]
def z0:Inp:=⟨[],[],[]⟩
theorem cn:Cnd z0 4:=⟨rfl,rfl⟩
def l0:List (Nat×(List V→Option V)):=pbL 4
theorem bKg:∀ x,x∈l0→BiOk Tryz.prog (sg z0) x.1 x.2:=bGg cn (by decide)
theorem mp0:PTr Tryz.prog 57 [.str tx0] vp0:=by
 have h:=aO5 cn bKg (show evB 4 l0 57 [.str tx0]=some vp0 by kernel_rfl)
 rw [aOk vp0 (by kernel_rfl)] at h
 exact h
theorem mr0:PTr Tryz.prog 82 [.str tx0] vr0:=by
 have h:=aO5 cn bKg (show evB 4 l0 82 [.str tx0]=some vr0 by kernel_rfl)
 rw [aOk vr0 (by kernel_rfl)] at h
 exact h
theorem bp0 (σ:Sy):BiOk Tryz.prog σ 57 (aLq tx0 vp0):=aYb (by rw [aOk vp0 (by kernel_rfl)]; exact mp0)
theorem br0 (σ:Sy):BiOk Tryz.prog σ 82 (aLq tx0 vr0):=aYb (by rw [aOk vr0 (by kernel_rfl)]; exact mr0)
def lA:List (Nat×(List V→Option V)):=(57,aLq tx0 vp0)::(82,aLq tx0 vr0)::l0
theorem bNx:∀ x,x∈lA→BiOk Tryz.prog (sg z0) x.1 x.2:=List.forall_mem_cons.2 ⟨bp0 _,List.forall_mem_cons.2 ⟨br0 _,bKg⟩⟩
theorem maw:PTr Tryz.prog 9 [] (.bool true):=aO5 cn bNx (show evB 4 lA 9 []=some (.bool true) by kernel_rfl)
theorem mz0:PTr Tryz.prog 15 [.str tx0] vz0:=by
 have h:=aO5 cn bNx (show evB 4 lA 15 [.str tx0]=some vz0 by kernel_rfl)
 rw [aOk vz0 (by kernel_rfl)] at h
 exact h
theorem bz0 (σ:Sy):BiOk Tryz.prog σ 15 (aLq tx0 vz0):=aYb (by rw [aOk vz0 (by kernel_rfl)]; exact mz0)
def lC (q:Nat):List (Nat×(List V→Option V)):=(15,aLq tx0 vz0)::(57,aLq tx0 vp0)::(82,aLq tx0 vr0)::(9,biTru)::pbL q
theorem bQ0 {z:Inp} {q:Nat} (h:Cnd z q) (hq:q<5):∀ x,x∈lC q→BiOk Tryz.prog (sg z) x.1 x.2 :=
 List.forall_mem_cons.2 ⟨bz0 _,List.forall_mem_cons.2 ⟨bp0 _,List.forall_mem_cons.2 ⟨br0 _,List.forall_mem_cons.2 ⟨bL1 maw,bGg h hq⟩⟩⟩⟩
end Go.Proofs.YtjakkhalapaofaaGreatDoor
