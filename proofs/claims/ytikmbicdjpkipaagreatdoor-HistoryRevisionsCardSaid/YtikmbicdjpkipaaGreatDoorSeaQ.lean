import Derived.Test.YtikmbicdjpkipaaGreatDoorSeaL
set_option linter.unusedVariables false
namespace Go.Proofs.YtikmbicdjpkipaaGreatDoor
open Go.RowKit Go.Ab Go.Lib
set_option maxRecDepth 1000000
def tx0:List UInt8:=[97,108,108,111,119,32,114,101,97,100,32,97,108,108,32,60,97,108,108,62,10,97,108,108,111,119,32,101,100,105,116,32,97,108,108,32,60,97,108,108,62,10,97,108,108,111,119,32,109,111,118,101,32,97,108,108,32,60,97,108,108,62,10,97,108,108,111,119,32,100,101,108,101,116,101,32,97,108,108,32,60,97,108,108,62,10,97,108,108,111,119,32,114,101,118,105,101,119,32,97,108,108,32,60,97,108,108,62,10]
def rs0:List Rul:=[⟨true,1,[97,108,108],⟨1,0,[]⟩⟩,⟨true,2,[97,108,108],⟨1,0,[]⟩⟩,⟨true,3,[97,108,108],⟨1,0,[]⟩⟩,⟨true,4,[97,108,108],⟨1,0,[]⟩⟩,⟨true,5,[97,108,108],⟨1,0,[]⟩⟩]
def pv0:V:=.agg [.nils,.lst 6 (ruV rs0),.nils]
theorem mp0:PTr Tryz.prog 71 [.str tx0] (.tup [pv0,.int .i64 0,.int .i64 0]):=by
 have h:=p361 prgf tx0;have e:V.tup [(polF tx0).1.v,.int .i64 (polF tx0).2.1,.int .i64 (polF tx0).2.2]=.tup [pv0,.int .i64 0,.int .i64 0]:=by kernel_rfl
 rw[e]at h;exact h
theorem mr0:PTr Tryz.prog 46 [.str tx0] (.tup [pv0,.int .i64 0,.int .i64 0]):=by
 have h:=t316 parr tx0 (by decide);have e:V.tup [(polF tx0).1.v,.int .i64 (polF tx0).2.1,.int .i64 (polF tx0).2.2]=.tup [pv0,.int .i64 0,.int .i64 0]:=by kernel_rfl
 rw[e]at h;exact h
def lA:List (Nat×(List V->Option V)):=(71,aXb tx0 (.tup [pv0,.int .i64 0,.int .i64 0]))::(46,aXb tx0 (.tup [pv0,.int .i64 0,.int .i64 0]))::l2
theorem bWd:∀x,x∈lA->BiOk Tryz.prog sg x.1 x.2:=List.forall_mem_cons.2 ⟨aZn mp0 (by kernel_rfl),List.forall_mem_cons.2 ⟨aZn mr0 (by kernel_rfl),aFs⟩⟩
theorem maw:PTr Tryz.prog 8 [] (.bool true):=evP bWd (show evB lA 8 []=some (.bool true)by kernel_rfl) rfl rfl
end Go.Proofs.YtikmbicdjpkipaaGreatDoor
