/- Known results: the policies of the texts, the first states, the sanity check. No condition. -/
import Derived.Test.YtjakkhalapaofaaGreatDoorSeaA
set_option linter.unusedVariables false
namespace Go.Proofs.YtjakkhalapaofaaGreatDoor
open Go.RowKit Go.Ab Go.Lib
set_option maxRecDepth 1000000
def tx0:List UInt8:=[97,108,108,111,119,32,114,101,97,100,32,97,108,108,32,60,97,108,108,62,10,97,108,108,111,119,32,101,100,105,116,32,97,108,108,32,60,97,108,108,62,10,97,108,108,111,119,32,109,111,118,101,32,97,108,108,32,60,97,108,108,62,10,97,108,108,111,119,32,100,101,108,101,116,101,32,97,108,108,32,60,97,108,108,62,10,97,108,108,111,119,32,114,101,118,105,101,119,32,97,108,108,32,60,97,108,108,62,10]
def vp0:V:=.tup [.agg [.nils,.lst 6 [.agg [.bool true,.int .i64 1,.str [97,108,108],.int .i64 1,.int .i64 0,.str []],.agg [.bool true,.int .i64 2,.str [97,108,108],.int .i64 1,.int .i64 0,.str []],.agg [.bool true,.int .i64 3,.str [97,108,108],.int .i64 1,.int .i64 0,.str []],.agg [.bool true,.int .i64 4,.str [97,108,108],.int .i64 1,.int .i64 0,.str []],.agg [.bool true,.int .i64 5,.str [97,108,108],.int .i64 1,.int .i64 0,.str []]],.nils],.int .i64 0,.int .i64 0]
def vr0:V:=.tup [.agg [.nils,.lst 6 [.agg [.bool true,.int .i64 1,.str [97,108,108],.int .i64 1,.int .i64 0,.str []],.agg [.bool true,.int .i64 2,.str [97,108,108],.int .i64 1,.int .i64 0,.str []],.agg [.bool true,.int .i64 3,.str [97,108,108],.int .i64 1,.int .i64 0,.str []],.agg [.bool true,.int .i64 4,.str [97,108,108],.int .i64 1,.int .i64 0,.str []],.agg [.bool true,.int .i64 5,.str [97,108,108],.int .i64 1,.int .i64 0,.str []]],.nils],.int .i64 0,.int .i64 0]
def tx1:List UInt8:=[97,108,108,111,119,32,114,101,97,100,32,97,108,108,32,60,97,108,108,62,10,97,108,108,111,119,32,101,100,105,116,32,97,108,108,32,60,97,108,108,62,10,103,114,111,117,112,32,115,116,97,102,102,32,97,110,110,10,103,117,97,114,100,32,115,116,97,102,102,32,65,32,124,32,83]
def vp1:V:=.tup [.agg [.lst 2 [.agg [.str [115,116,97,102,102],.lst 1 [.str [97,110,110]]]],.lst 6 [.agg [.bool true,.int .i64 1,.str [97,108,108],.int .i64 1,.int .i64 0,.str []],.agg [.bool true,.int .i64 2,.str [97,108,108],.int .i64 1,.int .i64 0,.str []]],.lst 5 [.agg [.bool false,.str [115,116,97,102,102],.int .i64 0,.str [65],.str [83]]]],.int .i64 0,.int .i64 0]
def vr1:V:=.tup [.agg [.lst 2 [.agg [.str [115,116,97,102,102],.lst 1 [.str [97,110,110]]]],.lst 6 [.agg [.bool true,.int .i64 1,.str [97,108,108],.int .i64 1,.int .i64 0,.str []],.agg [.bool true,.int .i64 2,.str [97,108,108],.int .i64 1,.int .i64 0,.str []]],.lst 5 [.agg [.bool false,.str [115,116,97,102,102],.int .i64 0,.str [65],.str [83]]]],.int .i64 0,.int .i64 0]
def tx2:List UInt8:=[97,108,108,111,119,32,114,101,97,100,32,97,108,108,32,60,97,108,108,62,10,97,108,108,111,119,32,101,100,105,116,32,97,108,108,32,60,97,108,108,62,10,103,114,111,117,112,32,115,116,97,102,102,32,97,110,110,10,115,116,114,105,99,116,32,115,116,97,102,102,32,65,32,124,32,83]
def vp2:V:=.tup [.agg [.lst 2 [.agg [.str [115,116,97,102,102],.lst 1 [.str [97,110,110]]]],.lst 6 [.agg [.bool true,.int .i64 1,.str [97,108,108],.int .i64 1,.int .i64 0,.str []],.agg [.bool true,.int .i64 2,.str [97,108,108],.int .i64 1,.int .i64 0,.str []]],.lst 5 [.agg [.bool true,.str [115,116,97,102,102],.int .i64 0,.str [65],.str [83]]]],.int .i64 0,.int .i64 0]
def vr2:V:=.tup [.agg [.lst 2 [.agg [.str [115,116,97,102,102],.lst 1 [.str [97,110,110]]]],.lst 6 [.agg [.bool true,.int .i64 1,.str [97,108,108],.int .i64 1,.int .i64 0,.str []],.agg [.bool true,.int .i64 2,.str [97,108,108],.int .i64 1,.int .i64 0,.str []]],.lst 5 [.agg [.bool true,.str [115,116,97,102,102],.int .i64 0,.str [65],.str [83]]]],.int .i64 0,.int .i64 0]
def vz1:V:=.agg [.int .i64 1,.int .i64 0,.lst 3 [.agg [.int .i64 5,.str [80,111,108,105,99,121],.lst 6 [.agg [.int .i64 1,.str [],.str [],.str [97,108,108,111,119,32,114,101,97,100,32,97,108,108,32,60,97,108,108,62,10,97,108,108,111,119,32,101,100,105,116,32,97,108,108,32,60,97,108,108,62,10,103,114,111,117,112,32,115,116,97,102,102,32,97,110,110,10,103,117,97,114,100,32,115,116,97,102,102,32,65,32,124,32,83],.int .i64 0,.int .i64 1]]]],.nils,.nils,.int .i64 0,.nils,.nils]
def vz2:V:=.agg [.int .i64 1,.int .i64 0,.lst 3 [.agg [.int .i64 5,.str [80,111,108,105,99,121],.lst 6 [.agg [.int .i64 1,.str [],.str [],.str [97,108,108,111,119,32,114,101,97,100,32,97,108,108,32,60,97,108,108,62,10,97,108,108,111,119,32,101,100,105,116,32,97,108,108,32,60,97,108,108,62,10,103,114,111,117,112,32,115,116,97,102,102,32,97,110,110,10,115,116,114,105,99,116,32,115,116,97,102,102,32,65,32,124,32,83],.int .i64 0,.int .i64 1]]]],.nils,.nils,.int .i64 0,.nils,.nils]
def z0:Inp:=⟨[],[],0⟩
def l0:List (Nat×(List V→Option V)):=pbL true 0
theorem aSa:∀ x,x∈l0→BiOk Tryz.prog (sg z0) x.1 x.2:=bAh (by decide) (fun _=>rfl)
theorem nf:true=false→bdyF z0.a≠bdyF z0.b:=fun h=>by cases h
theorem mp0:PTr Tryz.prog 57 [.str tx0] vp0:=by
 have h:=aBz nf aSa (show evB true l0 57 [.str tx0]=some vp0 by kernel_rfl)
 rw [aFn vp0 (by kernel_rfl)] at h
 exact h
theorem mr0:PTr Tryz.prog 82 [.str tx0] vr0:=by
 have h:=aBz nf aSa (show evB true l0 82 [.str tx0]=some vr0 by kernel_rfl)
 rw [aFn vr0 (by kernel_rfl)] at h
 exact h
theorem bp0 (σ:Sy):BiOk Tryz.prog σ 57 (aFv tx0 vp0):=aI7 (by rw [aFn vp0 (by kernel_rfl)]; exact mp0)
theorem br0 (σ:Sy):BiOk Tryz.prog σ 82 (aFv tx0 vr0):=aI7 (by rw [aFn vr0 (by kernel_rfl)]; exact mr0)
theorem mp1:PTr Tryz.prog 57 [.str tx1] vp1:=by
 have h:=aBz nf aSa (show evB true l0 57 [.str tx1]=some vp1 by kernel_rfl)
 rw [aFn vp1 (by kernel_rfl)] at h
 exact h
theorem mr1:PTr Tryz.prog 82 [.str tx1] vr1:=by
 have h:=aBz nf aSa (show evB true l0 82 [.str tx1]=some vr1 by kernel_rfl)
 rw [aFn vr1 (by kernel_rfl)] at h
 exact h
theorem bp1 (σ:Sy):BiOk Tryz.prog σ 57 (aFv tx1 vp1):=aI7 (by rw [aFn vp1 (by kernel_rfl)]; exact mp1)
theorem br1 (σ:Sy):BiOk Tryz.prog σ 82 (aFv tx1 vr1):=aI7 (by rw [aFn vr1 (by kernel_rfl)]; exact mr1)
theorem mp2:PTr Tryz.prog 57 [.str tx2] vp2:=by
 have h:=aBz nf aSa (show evB true l0 57 [.str tx2]=some vp2 by kernel_rfl)
 rw [aFn vp2 (by kernel_rfl)] at h
 exact h
theorem mr2:PTr Tryz.prog 82 [.str tx2] vr2:=by
 have h:=aBz nf aSa (show evB true l0 82 [.str tx2]=some vr2 by kernel_rfl)
 rw [aFn vr2 (by kernel_rfl)] at h
 exact h
theorem bp2 (σ:Sy):BiOk Tryz.prog σ 57 (aFv tx2 vp2):=aI7 (by rw [aFn vp2 (by kernel_rfl)]; exact mp2)
theorem br2 (σ:Sy):BiOk Tryz.prog σ 82 (aFv tx2 vr2):=aI7 (by rw [aFn vr2 (by kernel_rfl)]; exact mr2)
def lA:List (Nat×(List V→Option V)):=(57,aFv tx0 vp0)::(82,aFv tx0 vr0)::l0
theorem bNg:∀ x,x∈lA→BiOk Tryz.prog (sg z0) x.1 x.2:=List.forall_mem_cons.2 ⟨bp0 _,List.forall_mem_cons.2 ⟨br0 _,aSa⟩⟩
theorem maw:PTr Tryz.prog 9 [] (.bool true):=aBz nf bNg (show evB true lA 9 []=some (.bool true) by kernel_rfl)
def lBG (eq:Bool) (k:Int):List (Nat×(List V→Option V)):=(57,aFv tx1 vp1)::(82,aFv tx1 vr1)::(9,biTru)::pbL eq k
theorem bEz {z:Inp} {eq:Bool} {k:Int} (hk:rndN z.who 4=k) (he:eq=true→bdyF z.b=bdyF z.a):∀ x,x∈lBG eq k→BiOk Tryz.prog (sg z) x.1 x.2 :=
 List.forall_mem_cons.2 ⟨bp1 _,List.forall_mem_cons.2 ⟨br1 _,List.forall_mem_cons.2 ⟨bEr maw,bAh hk he⟩⟩⟩
theorem mz1:PTr Tryz.prog 15 [.str tx1] vz1:=by
 have h:=aBz nf (bEz (z:=z0) (k:=0) (by decide) (fun _=>rfl)) (show evB true (lBG true 0) 15 [.str tx1]=some vz1 by kernel_rfl)
 rw [aFn vz1 (by kernel_rfl)] at h
 exact h
theorem bz1 (σ:Sy):BiOk Tryz.prog σ 15 (aFv tx1 vz1):=aI7 (by rw [aFn vz1 (by kernel_rfl)]; exact mz1)
def lCG (eq:Bool) (k:Int):List (Nat×(List V→Option V)):=(15,aFv tx1 vz1)::lBG eq k
theorem aI9 {z:Inp} {eq:Bool} {k:Int} (hk:rndN z.who 4=k) (he:eq=true→bdyF z.b=bdyF z.a):∀ x,x∈lCG eq k→BiOk Tryz.prog (sg z) x.1 x.2:=List.forall_mem_cons.2 ⟨bz1 _,bEz hk he⟩
def lBS (eq:Bool) (k:Int):List (Nat×(List V→Option V)):=(57,aFv tx2 vp2)::(82,aFv tx2 vr2)::(9,biTru)::pbL eq k
theorem bE0 {z:Inp} {eq:Bool} {k:Int} (hk:rndN z.who 4=k) (he:eq=true→bdyF z.b=bdyF z.a):∀ x,x∈lBS eq k→BiOk Tryz.prog (sg z) x.1 x.2 :=
 List.forall_mem_cons.2 ⟨bp2 _,List.forall_mem_cons.2 ⟨br2 _,List.forall_mem_cons.2 ⟨bEr maw,bAh hk he⟩⟩⟩
theorem mz2:PTr Tryz.prog 15 [.str tx2] vz2:=by
 have h:=aBz nf (bE0 (z:=z0) (k:=0) (by decide) (fun _=>rfl)) (show evB true (lBS true 0) 15 [.str tx2]=some vz2 by kernel_rfl)
 rw [aFn vz2 (by kernel_rfl)] at h
 exact h
theorem bz2 (σ:Sy):BiOk Tryz.prog σ 15 (aFv tx2 vz2):=aI7 (by rw [aFn vz2 (by kernel_rfl)]; exact mz2)
def lCS (eq:Bool) (k:Int):List (Nat×(List V→Option V)):=(15,aFv tx2 vz2)::lBS eq k
theorem aIr {z:Inp} {eq:Bool} {k:Int} (hk:rndN z.who 4=k) (he:eq=true→bdyF z.b=bdyF z.a):∀ x,x∈lCS eq k→BiOk Tryz.prog (sg z) x.1 x.2:=List.forall_mem_cons.2 ⟨bz2 _,bE0 hk he⟩
end Go.Proofs.YtjakkhalapaofaaGreatDoor
