/- Known results: the policies of three texts, the first states, the sanity check. No condition. -/
import Derived.Test.YtdhhhhnbobdcoaaGreatDoorSeaA
set_option linter.unusedVariables false
namespace Go.Proofs.YtdhhhhnbobdcoaaGreatDoor
open Go.RowKit Go.Ab Go.Lib
set_option maxRecDepth 1000000
def tx0:List UInt8:=[97,108,108,111,119,32,114,101,97,100,32,97,108,108,32,60,97,108,108,62,10,97,108,108,111,119,32,101,100,105,116,32,97,108,108,32,60,97,108,108,62,10,97,108,108,111,119,32,109,111,118,101,32,97,108,108,32,60,97,108,108,62,10,97,108,108,111,119,32,100,101,108,101,116,101,32,97,108,108,32,60,97,108,108,62,10,97,108,108,111,119,32,114,101,118,105,101,119,32,97,108,108,32,60,97,108,108,62,10]
def vp0:V:=.tup [.agg [.nils,.lst 6 [.agg [.bool true,.int .i64 1,.str [97,108,108],.int .i64 1,.int .i64 0,.str []],.agg [.bool true,.int .i64 2,.str [97,108,108],.int .i64 1,.int .i64 0,.str []],.agg [.bool true,.int .i64 3,.str [97,108,108],.int .i64 1,.int .i64 0,.str []],.agg [.bool true,.int .i64 4,.str [97,108,108],.int .i64 1,.int .i64 0,.str []],.agg [.bool true,.int .i64 5,.str [97,108,108],.int .i64 1,.int .i64 0,.str []]],.nils],.int .i64 0,.int .i64 0]
def vr0:V:=.tup [.agg [.nils,.lst 6 [.agg [.bool true,.int .i64 1,.str [97,108,108],.int .i64 1,.int .i64 0,.str []],.agg [.bool true,.int .i64 2,.str [97,108,108],.int .i64 1,.int .i64 0,.str []],.agg [.bool true,.int .i64 3,.str [97,108,108],.int .i64 1,.int .i64 0,.str []],.agg [.bool true,.int .i64 4,.str [97,108,108],.int .i64 1,.int .i64 0,.str []],.agg [.bool true,.int .i64 5,.str [97,108,108],.int .i64 1,.int .i64 0,.str []]],.nils],.int .i64 0,.int .i64 0]
def tx1:List UInt8:=[97,108,108,111,119,32,114,101,97,100,32,97,108,108,32,60,97,108,108,62,10,97,108,108,111,119,32,101,100,105,116,32,97,108,108,32,60,97,108,108,62,10,97,108,108,111,119,32,109,111,118,101,32,97,108,108,32,60,97,108,108,62,10,97,108,108,111,119,32,100,101,108,101,116,101,32,97,108,108,32,60,97,108,108,62,10,97,108,108,111,119,32,114,101,118,105,101,119,32,97,108,108,32,60,97,108,108,62,10,103,114,111,117,112,32,115,116,97,102,102,32,97,110,110,10,103,117,97,114,100,32,115,116,97,102,102,32,65,10,103,117,97,114,100,32,115,116,97,102,102,32,66,10]
def vp1:V:=.tup [.agg [.lst 2 [.agg [.str [115,116,97,102,102],.lst 1 [.str [97,110,110]]]],.lst 6 [.agg [.bool true,.int .i64 1,.str [97,108,108],.int .i64 1,.int .i64 0,.str []],.agg [.bool true,.int .i64 2,.str [97,108,108],.int .i64 1,.int .i64 0,.str []],.agg [.bool true,.int .i64 3,.str [97,108,108],.int .i64 1,.int .i64 0,.str []],.agg [.bool true,.int .i64 4,.str [97,108,108],.int .i64 1,.int .i64 0,.str []],.agg [.bool true,.int .i64 5,.str [97,108,108],.int .i64 1,.int .i64 0,.str []]],.lst 5 [.agg [.bool false,.str [115,116,97,102,102],.int .i64 0,.str [65],.str []],.agg [.bool false,.str [115,116,97,102,102],.int .i64 0,.str [66],.str []]]],.int .i64 0,.int .i64 0]
def vr1:V:=.tup [.agg [.lst 2 [.agg [.str [115,116,97,102,102],.lst 1 [.str [97,110,110]]]],.lst 6 [.agg [.bool true,.int .i64 1,.str [97,108,108],.int .i64 1,.int .i64 0,.str []],.agg [.bool true,.int .i64 2,.str [97,108,108],.int .i64 1,.int .i64 0,.str []],.agg [.bool true,.int .i64 3,.str [97,108,108],.int .i64 1,.int .i64 0,.str []],.agg [.bool true,.int .i64 4,.str [97,108,108],.int .i64 1,.int .i64 0,.str []],.agg [.bool true,.int .i64 5,.str [97,108,108],.int .i64 1,.int .i64 0,.str []]],.lst 5 [.agg [.bool false,.str [115,116,97,102,102],.int .i64 0,.str [65],.str []],.agg [.bool false,.str [115,116,97,102,102],.int .i64 0,.str [66],.str []]]],.int .i64 0,.int .i64 0]
def tx2:List UInt8:=[97,108,108,111,119,32,114,101,97,100,32,97,108,108,32,60,97,108,108,62,10,97,108,108,111,119,32,101,100,105,116,32,97,108,108,32,60,97,108,108,62,10,97,108,108,111,119,32,109,111,118,101,32,97,108,108,32,60,97,108,108,62,10,97,108,108,111,119,32,100,101,108,101,116,101,32,97,108,108,32,60,97,108,108,62,10,97,108,108,111,119,32,114,101,118,105,101,119,32,97,108,108,32,60,97,108,108,62,10,103,114,111,117,112,32,115,116,97,102,102,32,97,110,110,10,115,116,114,105,99,116,32,115,116,97,102,102,32,65,10,115,116,114,105,99,116,32,115,116,97,102,102,32,66,10]
def vp2:V:=.tup [.agg [.lst 2 [.agg [.str [115,116,97,102,102],.lst 1 [.str [97,110,110]]]],.lst 6 [.agg [.bool true,.int .i64 1,.str [97,108,108],.int .i64 1,.int .i64 0,.str []],.agg [.bool true,.int .i64 2,.str [97,108,108],.int .i64 1,.int .i64 0,.str []],.agg [.bool true,.int .i64 3,.str [97,108,108],.int .i64 1,.int .i64 0,.str []],.agg [.bool true,.int .i64 4,.str [97,108,108],.int .i64 1,.int .i64 0,.str []],.agg [.bool true,.int .i64 5,.str [97,108,108],.int .i64 1,.int .i64 0,.str []]],.lst 5 [.agg [.bool true,.str [115,116,97,102,102],.int .i64 0,.str [65],.str []],.agg [.bool true,.str [115,116,97,102,102],.int .i64 0,.str [66],.str []]]],.int .i64 0,.int .i64 0]
def vr2:V:=.tup [.agg [.lst 2 [.agg [.str [115,116,97,102,102],.lst 1 [.str [97,110,110]]]],.lst 6 [.agg [.bool true,.int .i64 1,.str [97,108,108],.int .i64 1,.int .i64 0,.str []],.agg [.bool true,.int .i64 2,.str [97,108,108],.int .i64 1,.int .i64 0,.str []],.agg [.bool true,.int .i64 3,.str [97,108,108],.int .i64 1,.int .i64 0,.str []],.agg [.bool true,.int .i64 4,.str [97,108,108],.int .i64 1,.int .i64 0,.str []],.agg [.bool true,.int .i64 5,.str [97,108,108],.int .i64 1,.int .i64 0,.str []]],.lst 5 [.agg [.bool true,.str [115,116,97,102,102],.int .i64 0,.str [65],.str []],.agg [.bool true,.str [115,116,97,102,102],.int .i64 0,.str [66],.str []]]],.int .i64 0,.int .i64 0]
def vz1:V:=.agg [.int .i64 1,.int .i64 0,.lst 3 [.agg [.int .i64 5,.str [80,111,108,105,99,121],.lst 6 [.agg [.int .i64 1,.str [],.str [],.str [97,108,108,111,119,32,114,101,97,100,32,97,108,108,32,60,97,108,108,62,10,97,108,108,111,119,32,101,100,105,116,32,97,108,108,32,60,97,108,108,62,10,97,108,108,111,119,32,109,111,118,101,32,97,108,108,32,60,97,108,108,62,10,97,108,108,111,119,32,100,101,108,101,116,101,32,97,108,108,32,60,97,108,108,62,10,97,108,108,111,119,32,114,101,118,105,101,119,32,97,108,108,32,60,97,108,108,62,10,103,114,111,117,112,32,115,116,97,102,102,32,97,110,110,10,103,117,97,114,100,32,115,116,97,102,102,32,65,10,103,117,97,114,100,32,115,116,97,102,102,32,66,10],.int .i64 0,.int .i64 1]]]],.nils,.nils,.int .i64 0,.nils,.nils]
def vz2:V:=.agg [.int .i64 1,.int .i64 0,.lst 3 [.agg [.int .i64 5,.str [80,111,108,105,99,121],.lst 6 [.agg [.int .i64 1,.str [],.str [],.str [97,108,108,111,119,32,114,101,97,100,32,97,108,108,32,60,97,108,108,62,10,97,108,108,111,119,32,101,100,105,116,32,97,108,108,32,60,97,108,108,62,10,97,108,108,111,119,32,109,111,118,101,32,97,108,108,32,60,97,108,108,62,10,97,108,108,111,119,32,100,101,108,101,116,101,32,97,108,108,32,60,97,108,108,62,10,97,108,108,111,119,32,114,101,118,105,101,119,32,97,108,108,32,60,97,108,108,62,10,103,114,111,117,112,32,115,116,97,102,102,32,97,110,110,10,115,116,114,105,99,116,32,115,116,97,102,102,32,65,10,115,116,114,105,99,116,32,115,116,97,102,102,32,66,10],.int .i64 0,.int .i64 1]]]],.nils,.nils,.int .i64 0,.nils,.nils]
def l0:List (Nat×(List V→Option V)):=pbL 0
theorem aQl:∀ x,x∈l0→BiOk Tryz.prog (sg 0) x.1 x.2:=bB1 (by decide)
theorem mp0:PTr Tryz.prog 72 [.str tx0] vp0:=by
 have h:=aBl aQl (show evB l0 72 [.str tx0]=some vp0 by kernel_rfl)
 rw [aEj vp0 (by kernel_rfl)] at h
 exact h
theorem mr0:PTr Tryz.prog 59 [.str tx0] vr0:=by
 have h:=aBl aQl (show evB l0 59 [.str tx0]=some vr0 by kernel_rfl)
 rw [aEj vr0 (by kernel_rfl)] at h
 exact h
theorem bp0 (σ:Sy):BiOk Tryz.prog σ 72 (aE2 tx0 vp0):=aH3 (by rw [aEj vp0 (by kernel_rfl)]; exact mp0)
theorem br0 (σ:Sy):BiOk Tryz.prog σ 59 (aE2 tx0 vr0):=aH3 (by rw [aEj vr0 (by kernel_rfl)]; exact mr0)
theorem mp1:PTr Tryz.prog 72 [.str tx1] vp1:=by
 have h:=aBl aQl (show evB l0 72 [.str tx1]=some vp1 by kernel_rfl)
 rw [aEj vp1 (by kernel_rfl)] at h
 exact h
theorem mr1:PTr Tryz.prog 59 [.str tx1] vr1:=by
 have h:=aBl aQl (show evB l0 59 [.str tx1]=some vr1 by kernel_rfl)
 rw [aEj vr1 (by kernel_rfl)] at h
 exact h
theorem bp1 (σ:Sy):BiOk Tryz.prog σ 72 (aE2 tx1 vp1):=aH3 (by rw [aEj vp1 (by kernel_rfl)]; exact mp1)
theorem br1 (σ:Sy):BiOk Tryz.prog σ 59 (aE2 tx1 vr1):=aH3 (by rw [aEj vr1 (by kernel_rfl)]; exact mr1)
theorem mp2:PTr Tryz.prog 72 [.str tx2] vp2:=by
 have h:=aBl aQl (show evB l0 72 [.str tx2]=some vp2 by kernel_rfl)
 rw [aEj vp2 (by kernel_rfl)] at h
 exact h
theorem mr2:PTr Tryz.prog 59 [.str tx2] vr2:=by
 have h:=aBl aQl (show evB l0 59 [.str tx2]=some vr2 by kernel_rfl)
 rw [aEj vr2 (by kernel_rfl)] at h
 exact h
theorem bp2 (σ:Sy):BiOk Tryz.prog σ 72 (aE2 tx2 vp2):=aH3 (by rw [aEj vp2 (by kernel_rfl)]; exact mp2)
theorem br2 (σ:Sy):BiOk Tryz.prog σ 59 (aE2 tx2 vr2):=aH3 (by rw [aEj vr2 (by kernel_rfl)]; exact mr2)
def lA:List (Nat×(List V→Option V)):=(72,aE2 tx0 vp0)::(59,aE2 tx0 vr0)::l0
theorem bLj:∀ x,x∈lA→BiOk Tryz.prog (sg 0) x.1 x.2:=List.forall_mem_cons.2 ⟨bp0 _,List.forall_mem_cons.2 ⟨br0 _,aQl⟩⟩
theorem maw:PTr Tryz.prog 9 [] (.bool true):=aBl bLj (show evB lA 9 []=some (.bool true) by kernel_rfl)
def lB (k:Int):List (Nat×(List V→Option V)):=(72,biOr (aE2 tx1 vp1) (aE2 tx2 vp2))::(59,biOr (aE2 tx1 vr1) (aE2 tx2 vr2))::(9,biTru)::pbL k
theorem bC5 {who k:Int} (hk:rndF who=k):∀ x,x∈lB k→BiOk Tryz.prog (sg who) x.1 x.2 :=
 List.forall_mem_cons.2 ⟨aLc (bp1 _) (bp2 _),List.forall_mem_cons.2 ⟨aLc (br1 _) (br2 _),List.forall_mem_cons.2 ⟨bG6 maw,bB1 hk⟩⟩⟩
theorem mz1:PTr Tryz.prog 17 [.str tx1] vz1:=by
 have h:=aBl (bC5 (who:=0) (k:=0) (by decide)) (show evB (lB 0) 17 [.str tx1]=some vz1 by kernel_rfl)
 rw [aEj vz1 (by kernel_rfl)] at h
 exact h
theorem bz1 (σ:Sy):BiOk Tryz.prog σ 17 (aE2 tx1 vz1):=aH3 (by rw [aEj vz1 (by kernel_rfl)]; exact mz1)
theorem mz2:PTr Tryz.prog 17 [.str tx2] vz2:=by
 have h:=aBl (bC5 (who:=0) (k:=0) (by decide)) (show evB (lB 0) 17 [.str tx2]=some vz2 by kernel_rfl)
 rw [aEj vz2 (by kernel_rfl)] at h
 exact h
theorem bz2 (σ:Sy):BiOk Tryz.prog σ 17 (aE2 tx2 vz2):=aH3 (by rw [aEj vz2 (by kernel_rfl)]; exact mz2)
def lC (k:Int):List (Nat×(List V→Option V)):=(17,biOr (aE2 tx1 vz1) (aE2 tx2 vz2))::lB k
theorem aFw {who k:Int} (hk:rndF who=k):∀ x,x∈lC k→BiOk Tryz.prog (sg who) x.1 x.2:=List.forall_mem_cons.2 ⟨aLc (bz1 _) (bz2 _),bC5 hk⟩
end Go.Proofs.YtdhhhhnbobdcoaaGreatDoor
