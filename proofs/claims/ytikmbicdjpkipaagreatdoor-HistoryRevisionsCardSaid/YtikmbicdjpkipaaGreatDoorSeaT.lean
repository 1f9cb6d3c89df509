import Derived.Test.YtikmbicdjpkipaaGreatDoorSeaL
set_option linter.unusedVariables false
namespace Go.Proofs.YtikmbicdjpkipaaGreatDoor
open Go.RowKit Go.Ab Go.Lib
set_option maxRecDepth 1000000
theorem rdq:(aB9.map λt=>evB l2 148 [tV t])=aB9.map λt=>some (.str (redS (λ_=>true) t)):=by kernel_rfl
theorem allT{p:Ttl->Prop}(h0:p (0,[65]))(h1:p (0,[66]))(h2:p (0,[65,47,67]))(h3:p (3,[84]))(h4:p (4,[88]))(h5:p (4,[89]))(h6:p (2,[65,110,110]))(h7:p (0,[68])):∀t,ttT t->p t:=by
 intro t ht;simp only[ttT,aB9,List.mem_cons,List.not_mem_nil,or_false]at ht;rcases ht with rfl|rfl|rfl|rfl|rfl|rfl|rfl|rfl<;>assumption
theorem allU{p:List UInt8->Prop}(h0:p [97,110,110])(h1:p [98,111,98])(h2:p [])(h3:p [99,121]):∀u,usT u->p u:=by
 intro u hu;simp only[usT,aSf,List.mem_cons,List.not_mem_nil,or_false]at hu;rcases hu with rfl|rfl|rfl|rfl|rfl<;>assumption
end Go.Proofs.YtikmbicdjpkipaaGreatDoor
