import Derived.Test.YtikmbicdjpkipaaGreatDoorSeaA
set_option linter.unusedVariables false
namespace Go.Proofs.YtikmbicdjpkipaaGreatDoor
open Go.RowKit Go.Ab Go.Lib
set_option maxRecDepth 1000000
theorem rda:PTr Tryz.prog 148 [tV (0,[65])] (.str (redS (λ_=>true) (0,[65]))):=evP l1_ok (show evB l1 148 [tV (0,[65])]=some (.str (redS (λ_=>true) (0,[65])))by kernel_rfl) rfl (by kernel_rfl)
theorem rdb:PTr Tryz.prog 148 [tV (0,[66])] (.str (redS (λ_=>true) (0,[66]))):=evP l1_ok (show evB l1 148 [tV (0,[66])]=some (.str (redS (λ_=>true) (0,[66])))by kernel_rfl) rfl (by kernel_rfl)
theorem rdc:PTr Tryz.prog 148 [tV (0,[65,47,67])] (.str (redS (λ_=>true) (0,[65,47,67]))):=evP l1_ok (show evB l1 148 [tV (0,[65,47,67])]=some (.str (redS (λ_=>true) (0,[65,47,67])))by kernel_rfl) rfl (by kernel_rfl)
theorem rdd:PTr Tryz.prog 148 [tV (3,[84])] (.str (redS (λ_=>true) (3,[84]))):=evP l1_ok (show evB l1 148 [tV (3,[84])]=some (.str (redS (λ_=>true) (3,[84])))by kernel_rfl) rfl (by kernel_rfl)
theorem rde:PTr Tryz.prog 148 [tV (4,[88])] (.str (redS (λ_=>true) (4,[88]))):=evP l1_ok (show evB l1 148 [tV (4,[88])]=some (.str (redS (λ_=>true) (4,[88])))by kernel_rfl) rfl (by kernel_rfl)
theorem rdf:PTr Tryz.prog 148 [tV (4,[89])] (.str (redS (λ_=>true) (4,[89]))):=evP l1_ok (show evB l1 148 [tV (4,[89])]=some (.str (redS (λ_=>true) (4,[89])))by kernel_rfl) rfl (by kernel_rfl)
theorem rdg:PTr Tryz.prog 148 [tV (2,[65,110,110])] (.str (redS (λ_=>true) (2,[65,110,110]))):=evP l1_ok (show evB l1 148 [tV (2,[65,110,110])]=some (.str (redS (λ_=>true) (2,[65,110,110])))by kernel_rfl) rfl (by kernel_rfl)
theorem rdh:PTr Tryz.prog 148 [tV (0,[68])] (.str (redS (λ_=>true) (0,[68]))):=evP l1_ok (show evB l1 148 [tV (0,[68])]=some (.str (redS (λ_=>true) (0,[68])))by kernel_rfl) rfl (by kernel_rfl)
theorem allT{p:Ttl->Prop}(h0:p (0,[65]))(h1:p (0,[66]))(h2:p (0,[65,47,67]))(h3:p (3,[84]))(h4:p (4,[88]))(h5:p (4,[89]))(h6:p (2,[65,110,110]))(h7:p (0,[68])):∀t,ttT t->p t:=by
 intro t ht;simp only[ttT,aCs,List.mem_cons,List.not_mem_nil,or_false]at ht;rcases ht with rfl|rfl|rfl|rfl|rfl|rfl|rfl|rfl<;>assumption
theorem allU{p:List UInt8->Prop}(h0:p [97,110,110])(h1:p [98,111,98])(h2:p [])(h3:p [99,121]):∀u,usT u->p u:=by
 intro u hu;simp only[usT,aQx,List.mem_cons,List.not_mem_nil,or_false]at hu;rcases hu with rfl|rfl|rfl|rfl|rfl<;>assumption
end Go.Proofs.YtikmbicdjpkipaaGreatDoor
