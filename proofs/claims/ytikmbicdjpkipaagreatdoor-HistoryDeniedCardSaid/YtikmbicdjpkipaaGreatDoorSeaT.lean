/- The titles, the users. No condition. -/
import Derived.Test.YtikmbicdjpkipaaGreatDoorSeaV
set_option linter.unusedVariables false
namespace Go.Proofs.YtikmbicdjpkipaaGreatDoor
open Go.RowKit Go.Ab Go.Lib
set_option maxRecDepth 1000000
theorem rva:PTr Tryz.prog 47 [tV (0,[65])] (.bool true):=evP aAp (show evB l1 47 [tV (0,[65])]=some (.bool true) by kernel_rfl) rfl (by kernel_rfl)
theorem pla:PTr Tryz.prog 59 [tV (0,[65])] (.bool true):=evP aAp (show evB l1 59 [tV (0,[65])]=some (.bool true) by kernel_rfl) rfl (by kernel_rfl)
theorem lpa:PTr Tryz.prog 125 [tV (0,[65])] (.lst 3 (scV (levF 0 [65]))):=evP aAp (show evB l1 125 [tV (0,[65])]=some (.lst 3 (scV (levF 0 [65]))) by kernel_rfl) rfl (by kernel_rfl)
theorem lra:PTr Tryz.prog 48 [tV (0,[65])] (.lst 3 (scV (levF 0 [65]))):=evP aAp (show evB l1 48 [tV (0,[65])]=some (.lst 3 (scV (levF 0 [65]))) by kernel_rfl) rfl (by kernel_rfl)
theorem rda:PTr Tryz.prog 148 [tV (0,[65])] (.str (redS (fun _=>true) (0,[65]))):=evP aAp (show evB l1 148 [tV (0,[65])]=some (.str (redS (fun _=>true) (0,[65]))) by kernel_rfl) rfl (by kernel_rfl)
theorem rvb:PTr Tryz.prog 47 [tV (0,[66])] (.bool true):=evP aAp (show evB l1 47 [tV (0,[66])]=some (.bool true) by kernel_rfl) rfl (by kernel_rfl)
theorem plb:PTr Tryz.prog 59 [tV (0,[66])] (.bool true):=evP aAp (show evB l1 59 [tV (0,[66])]=some (.bool true) by kernel_rfl) rfl (by kernel_rfl)
theorem lpb:PTr Tryz.prog 125 [tV (0,[66])] (.lst 3 (scV (levF 0 [66]))):=evP aAp (show evB l1 125 [tV (0,[66])]=some (.lst 3 (scV (levF 0 [66]))) by kernel_rfl) rfl (by kernel_rfl)
theorem lrb:PTr Tryz.prog 48 [tV (0,[66])] (.lst 3 (scV (levF 0 [66]))):=evP aAp (show evB l1 48 [tV (0,[66])]=some (.lst 3 (scV (levF 0 [66]))) by kernel_rfl) rfl (by kernel_rfl)
theorem rdb:PTr Tryz.prog 148 [tV (0,[66])] (.str (redS (fun _=>true) (0,[66]))):=evP aAp (show evB l1 148 [tV (0,[66])]=some (.str (redS (fun _=>true) (0,[66]))) by kernel_rfl) rfl (by kernel_rfl)
theorem rvc:PTr Tryz.prog 47 [tV (0,[65,47,67])] (.bool true):=evP aAp (show evB l1 47 [tV (0,[65,47,67])]=some (.bool true) by kernel_rfl) rfl (by kernel_rfl)
theorem plc:PTr Tryz.prog 59 [tV (0,[65,47,67])] (.bool true):=evP aAp (show evB l1 59 [tV (0,[65,47,67])]=some (.bool true) by kernel_rfl) rfl (by kernel_rfl)
theorem lpc:PTr Tryz.prog 125 [tV (0,[65,47,67])] (.lst 3 (scV (levF 0 [65,47,67]))):=evP aAp (show evB l1 125 [tV (0,[65,47,67])]=some (.lst 3 (scV (levF 0 [65,47,67]))) by kernel_rfl) rfl (by kernel_rfl)
theorem lrc:PTr Tryz.prog 48 [tV (0,[65,47,67])] (.lst 3 (scV (levF 0 [65,47,67]))):=evP aAp (show evB l1 48 [tV (0,[65,47,67])]=some (.lst 3 (scV (levF 0 [65,47,67]))) by kernel_rfl) rfl (by kernel_rfl)
theorem rdc:PTr Tryz.prog 148 [tV (0,[65,47,67])] (.str (redS (fun _=>true) (0,[65,47,67]))):=evP aAp (show evB l1 148 [tV (0,[65,47,67])]=some (.str (redS (fun _=>true) (0,[65,47,67]))) by kernel_rfl) rfl (by kernel_rfl)
theorem rvd:PTr Tryz.prog 47 [tV (3,[84])] (.bool true):=evP aAp (show evB l1 47 [tV (3,[84])]=some (.bool true) by kernel_rfl) rfl (by kernel_rfl)
theorem pld:PTr Tryz.prog 59 [tV (3,[84])] (.bool true):=evP aAp (show evB l1 59 [tV (3,[84])]=some (.bool true) by kernel_rfl) rfl (by kernel_rfl)
theorem lpd:PTr Tryz.prog 125 [tV (3,[84])] (.lst 3 (scV (levF 3 [84]))):=evP aAp (show evB l1 125 [tV (3,[84])]=some (.lst 3 (scV (levF 3 [84]))) by kernel_rfl) rfl (by kernel_rfl)
theorem lrd:PTr Tryz.prog 48 [tV (3,[84])] (.lst 3 (scV (levF 3 [84]))):=evP aAp (show evB l1 48 [tV (3,[84])]=some (.lst 3 (scV (levF 3 [84]))) by kernel_rfl) rfl (by kernel_rfl)
theorem rdd:PTr Tryz.prog 148 [tV (3,[84])] (.str (redS (fun _=>true) (3,[84]))):=evP aAp (show evB l1 148 [tV (3,[84])]=some (.str (redS (fun _=>true) (3,[84]))) by kernel_rfl) rfl (by kernel_rfl)
theorem rve:PTr Tryz.prog 47 [tV (4,[88])] (.bool true):=evP aAp (show evB l1 47 [tV (4,[88])]=some (.bool true) by kernel_rfl) rfl (by kernel_rfl)
theorem ple:PTr Tryz.prog 59 [tV (4,[88])] (.bool true):=evP aAp (show evB l1 59 [tV (4,[88])]=some (.bool true) by kernel_rfl) rfl (by kernel_rfl)
theorem lpe:PTr Tryz.prog 125 [tV (4,[88])] (.lst 3 (scV (levF 4 [88]))):=evP aAp (show evB l1 125 [tV (4,[88])]=some (.lst 3 (scV (levF 4 [88]))) by kernel_rfl) rfl (by kernel_rfl)
theorem lre:PTr Tryz.prog 48 [tV (4,[88])] (.lst 3 (scV (levF 4 [88]))):=evP aAp (show evB l1 48 [tV (4,[88])]=some (.lst 3 (scV (levF 4 [88]))) by kernel_rfl) rfl (by kernel_rfl)
theorem rde:PTr Tryz.prog 148 [tV (4,[88])] (.str (redS (fun _=>true) (4,[88]))):=evP aAp (show evB l1 148 [tV (4,[88])]=some (.str (redS (fun _=>true) (4,[88]))) by kernel_rfl) rfl (by kernel_rfl)
theorem rvf:PTr Tryz.prog 47 [tV (4,[89])] (.bool true):=evP aAp (show evB l1 47 [tV (4,[89])]=some (.bool true) by kernel_rfl) rfl (by kernel_rfl)
theorem plf:PTr Tryz.prog 59 [tV (4,[89])] (.bool true):=evP aAp (show evB l1 59 [tV (4,[89])]=some (.bool true) by kernel_rfl) rfl (by kernel_rfl)
theorem lpf:PTr Tryz.prog 125 [tV (4,[89])] (.lst 3 (scV (levF 4 [89]))):=evP aAp (show evB l1 125 [tV (4,[89])]=some (.lst 3 (scV (levF 4 [89]))) by kernel_rfl) rfl (by kernel_rfl)
theorem lrf:PTr Tryz.prog 48 [tV (4,[89])] (.lst 3 (scV (levF 4 [89]))):=evP aAp (show evB l1 48 [tV (4,[89])]=some (.lst 3 (scV (levF 4 [89]))) by kernel_rfl) rfl (by kernel_rfl)
theorem rdf:PTr Tryz.prog 148 [tV (4,[89])] (.str (redS (fun _=>true) (4,[89]))):=evP aAp (show evB l1 148 [tV (4,[89])]=some (.str (redS (fun _=>true) (4,[89]))) by kernel_rfl) rfl (by kernel_rfl)
theorem rvg:PTr Tryz.prog 47 [tV (2,[65,110,110])] (.bool true):=evP aAp (show evB l1 47 [tV (2,[65,110,110])]=some (.bool true) by kernel_rfl) rfl (by kernel_rfl)
theorem plg:PTr Tryz.prog 59 [tV (2,[65,110,110])] (.bool true):=evP aAp (show evB l1 59 [tV (2,[65,110,110])]=some (.bool true) by kernel_rfl) rfl (by kernel_rfl)
theorem lpg:PTr Tryz.prog 125 [tV (2,[65,110,110])] (.lst 3 (scV (levF 2 [65,110,110]))):=evP aAp (show evB l1 125 [tV (2,[65,110,110])]=some (.lst 3 (scV (levF 2 [65,110,110]))) by kernel_rfl) rfl (by kernel_rfl)
theorem lrg:PTr Tryz.prog 48 [tV (2,[65,110,110])] (.lst 3 (scV (levF 2 [65,110,110]))):=evP aAp (show evB l1 48 [tV (2,[65,110,110])]=some (.lst 3 (scV (levF 2 [65,110,110]))) by kernel_rfl) rfl (by kernel_rfl)
theorem rdg:PTr Tryz.prog 148 [tV (2,[65,110,110])] (.str (redS (fun _=>true) (2,[65,110,110]))):=evP aAp (show evB l1 148 [tV (2,[65,110,110])]=some (.str (redS (fun _=>true) (2,[65,110,110]))) by kernel_rfl) rfl (by kernel_rfl)
theorem rvh:PTr Tryz.prog 47 [tV (0,[68])] (.bool true):=evP aAp (show evB l1 47 [tV (0,[68])]=some (.bool true) by kernel_rfl) rfl (by kernel_rfl)
theorem plh:PTr Tryz.prog 59 [tV (0,[68])] (.bool true):=evP aAp (show evB l1 59 [tV (0,[68])]=some (.bool true) by kernel_rfl) rfl (by kernel_rfl)
theorem lph:PTr Tryz.prog 125 [tV (0,[68])] (.lst 3 (scV (levF 0 [68]))):=evP aAp (show evB l1 125 [tV (0,[68])]=some (.lst 3 (scV (levF 0 [68]))) by kernel_rfl) rfl (by kernel_rfl)
theorem lrh:PTr Tryz.prog 48 [tV (0,[68])] (.lst 3 (scV (levF 0 [68]))):=evP aAp (show evB l1 48 [tV (0,[68])]=some (.lst 3 (scV (levF 0 [68]))) by kernel_rfl) rfl (by kernel_rfl)
theorem rdh:PTr Tryz.prog 148 [tV (0,[68])] (.str (redS (fun _=>true) (0,[68]))):=evP aAp (show evB l1 148 [tV (0,[68])]=some (.str (redS (fun _=>true) (0,[68]))) by kernel_rfl) rfl (by kernel_rfl)
theorem rvp:PTr Tryz.prog 47 [tV (5,[80,111,108,105,99,121])] (.bool true):=evP aAp (show evB l1 47 [tV (5,[80,111,108,105,99,121])]=some (.bool true) by kernel_rfl) rfl (by kernel_rfl)
theorem np0:PTr Tryz.prog 109 [.str [97,110,110]] (.bool true):=evP aAp (show evB l1 109 [.str [97,110,110]]=some (.bool true) by kernel_rfl) rfl rfl
theorem nr0:PTr Tryz.prog 51 [.str [97,110,110]] (.bool true):=evP aAp (show evB l1 51 [.str [97,110,110]]=some (.bool true) by kernel_rfl) rfl rfl
theorem np1:PTr Tryz.prog 109 [.str [98,111,98]] (.bool true):=evP aAp (show evB l1 109 [.str [98,111,98]]=some (.bool true) by kernel_rfl) rfl rfl
theorem nr1:PTr Tryz.prog 51 [.str [98,111,98]] (.bool true):=evP aAp (show evB l1 51 [.str [98,111,98]]=some (.bool true) by kernel_rfl) rfl rfl
theorem np2:PTr Tryz.prog 109 [.str []] (.bool false):=evP aAp (show evB l1 109 [.str []]=some (.bool false) by kernel_rfl) rfl rfl
theorem nr2:PTr Tryz.prog 51 [.str []] (.bool false):=evP aAp (show evB l1 51 [.str []]=some (.bool false) by kernel_rfl) rfl rfl
theorem np3:PTr Tryz.prog 109 [.str [99,121]] (.bool true):=evP aAp (show evB l1 109 [.str [99,121]]=some (.bool true) by kernel_rfl) rfl rfl
theorem nr3:PTr Tryz.prog 51 [.str [99,121]] (.bool true):=evP aAp (show evB l1 51 [.str [99,121]]=some (.bool true) by kernel_rfl) rfl rfl
theorem foa:PTr Tryz.prog 62 [tV (0,[65])] (.str [65]):=evP aAp (show evB l1 62 [tV (0,[65])]=some (.str [65]) by kernel_rfl) rfl rfl
theorem fob:PTr Tryz.prog 62 [tV (0,[66])] (.str [66]):=evP aAp (show evB l1 62 [tV (0,[66])]=some (.str [66]) by kernel_rfl) rfl rfl
theorem foc:PTr Tryz.prog 62 [tV (0,[65,47,67])] (.str [65,47,67]):=evP aAp (show evB l1 62 [tV (0,[65,47,67])]=some (.str [65,47,67]) by kernel_rfl) rfl rfl
theorem fod:PTr Tryz.prog 62 [tV (3,[84])] (.str [84,101,109,112,108,97,116,101,58,84]):=evP aAp (show evB l1 62 [tV (3,[84])]=some (.str [84,101,109,112,108,97,116,101,58,84]) by kernel_rfl) rfl rfl
theorem foe:PTr Tryz.prog 62 [tV (4,[88])] (.str [67,97,116,101,103,111,114,121,58,88]):=evP aAp (show evB l1 62 [tV (4,[88])]=some (.str [67,97,116,101,103,111,114,121,58,88]) by kernel_rfl) rfl rfl
theorem fof:PTr Tryz.prog 62 [tV (4,[89])] (.str [67,97,116,101,103,111,114,121,58,89]):=evP aAp (show evB l1 62 [tV (4,[89])]=some (.str [67,97,116,101,103,111,114,121,58,89]) by kernel_rfl) rfl rfl
theorem fog:PTr Tryz.prog 62 [tV (2,[65,110,110])] (.str [85,115,101,114,58,65,110,110]):=evP aAp (show evB l1 62 [tV (2,[65,110,110])]=some (.str [85,115,101,114,58,65,110,110]) by kernel_rfl) rfl rfl
theorem foh:PTr Tryz.prog 62 [tV (0,[68])] (.str [68]):=evP aAp (show evB l1 62 [tV (0,[68])]=some (.str [68]) by kernel_rfl) rfl rfl
theorem allT {p:Ttl→Prop} (h0:p (0,[65])) (h1:p (0,[66])) (h2:p (0,[65,47,67])) (h3:p (3,[84])) (h4:p (4,[88])) (h5:p (4,[89])) (h6:p (2,[65,110,110])) (h7:p (0,[68])):∀ t,ttT t→p t:=by
 intro t ht
 simp only [ttT,aB9,List.mem_cons,List.not_mem_nil,or_false] at ht
 rcases ht with rfl | rfl | rfl | rfl | rfl | rfl | rfl | rfl <;> assumption
theorem allU {p:List UInt8→Prop} (h0:p [97,110,110]) (h1:p [98,111,98]) (h2:p []) (h3:p [99,121]):∀ u,usT u→p u:=by
 intro u hu
 simp only [usT,aMz,List.mem_cons,List.not_mem_nil,or_false] at hu
 rcases hu with rfl | rfl | rfl | rfl | rfl <;> assumption
end Go.Proofs.YtikmbicdjpkipaaGreatDoor
