/- The functions of this seat, by program. No condition. -/
import Derived.Test.YtjakkhalapaofaaGreatDoorProg
import Derived.Test.YtjakkhalapaofaaGreatDoorAbE5
import Derived.Test.YtjakkhalapaofaaGreatDoorAbP1
import Derived.Test.YtjakkhalapaofaaGreatDoorAbP3
import Derived.Test.YtjakkhalapaofaaGreatDoorAbR0
import Derived.Test.YtjakkhalapaofaaGreatDoorAbZ1
import Derived.Test.YtjakkhalapaofaaGreatDoorAbZ4
import Derived.Test.YtjakkhalapaofaaGreatDoorAbM1
namespace Go.Ab
open Go.Proofs
set_option maxRecDepth 100000
def sF (k:Nat):Nat:=[0,0,239,65,0,0,0,0,0,0,0,0,0,0,0,0,0,0,0,0,0,0,272,159,119,120,0,156,0,296,207,306,307,158,0,0,238,37,0,0,0,0,294,0,0,0,0,0,0,0,61,0,0,0,0,0,268,269,270,271,62,63,64,0,144,106,0,281,282,283,284,285,286,287,288,289,290,291,292,293,295,107,108,109,110,111,112,113,114,115,116,117,118,0,0,0,0,256,278,0,0,168,169,170,299,300,301,302,303,171,172,173,0,0,0,0,309,0,0,0,88,0,0,0,149,67,0,0,221,0,0,150,222,0,0,0,203,204,66,0,208,262,157,240,241,0,0,0,0,0,0,202,0,0,0,0,0,0,0,11,0,0,0,0,0,0,0,0,38,39,0,0,0,0,0,0,0,0,0,0,0,0,0,167,0,0,0,0,0,0,0,0,0,0,0,0,0,0,0,0,0,0,0,0,0,0,0,0,0,0,0,0,0,0,0,0,0,0,0,0,0,0,0,0,0,0,0,0,0,0,0,0,0,0,0,0,0,0,0,0,0,0,0,0,0,0,0,0,0,0,0,0,0,0,0,101,36,56,96,97,98,99,100,151,152,155,154,153,206,242,273,0,32,0,0,0,0,0,10,0,0,0,0,0,0,0,33,35,34,280,60].getD k 0
def sT (k:Nat):Nat:=[158,207,247,5,103,344,342,347,153,150,0,147,317,59,111,4,78,41,179,181,198,9,165,307,3,174,32,34,101,183,187,190,91,96].getD k 0
theorem fn2:Is2 Tryz.prog sF sT:=aAj (fun d=>if d=1000159 then 4 else if d=1000272 then 4 else 0) (by kernel_rfl) (by kernel_rfl)
theorem fn22:Is22 Tryz.prog sF sT:=aAj (fun d=>if d=1000296 then 4 else 0) (by kernel_rfl) (by kernel_rfl)
theorem fn23:Is23 Tryz.prog sF sT:=aAj (fun d=>0) (by kernel_rfl) (by kernel_rfl)
theorem fn27:Is27 Tryz.prog sF sT:=aAj (fun d=>if d=1000207 then 4 else 0) (by kernel_rfl) (by kernel_rfl)
theorem fn29:Is29 Tryz.prog sF sT:=aAj (fun d=>if d=1000156 then 4 else if d=1000272 then 4 else if d=1000306 then 4 else 0) (by kernel_rfl) (by kernel_rfl)
theorem fn30:Is30 Tryz.prog sF sT:=aAj (fun d=>0) (by kernel_rfl) (by kernel_rfl)
theorem fn31:Is31 Tryz.prog sF sT:=aAj (fun d=>if d=1000156 then 4 else if d=1000158 then 4 else if d=1000272 then 4 else 0) (by kernel_rfl) (by kernel_rfl)
theorem fn32:Is32 Tryz.prog sF sT:=aAj (fun d=>0) (by kernel_rfl) (by kernel_rfl)
theorem fn33:Is33 Tryz.prog sF sT:=aAj (fun d=>if d=1000207 then 4 else 0) (by kernel_rfl) (by kernel_rfl)
theorem fn36:Is36 Tryz.prog sF sT:=aAj (fun d=>if d=19 then 1 else if d=1000269 then 4 else if d=1000270 then 4 else if d=1000271 then 4 else 0) (by kernel_rfl) (by kernel_rfl)
theorem fn56:Is56 Tryz.prog sF sT:=aAj (fun d=>0) (by kernel_rfl) (by kernel_rfl)
theorem fn57:Is57 Tryz.prog sF sT:=aAj (fun d=>if d=1000283 then 4 else if d=1000284 then 4 else if d=1000285 then 4 else if d=1000287 then 4 else if d=1000288 then 4 else if d=1000289 then 4 else if d=1000290 then 4 else if d=1000291 then 4 else 0) (by kernel_rfl) (by kernel_rfl)
theorem fn59:Is59 Tryz.prog sF sT:=aAj (fun d=>0) (by kernel_rfl) (by kernel_rfl)
theorem fn67:Is67 Tryz.prog sF sT:=aAj (fun d=>0) (by kernel_rfl) (by kernel_rfl)
theorem fn68:Is68 Tryz.prog sF sT:=aAj (fun d=>0) (by kernel_rfl) (by kernel_rfl)
theorem fn69:Is69 Tryz.prog sF sT:=aAj (fun d=>if d=2000048 then 5 else if d=2000049 then 6 else if d=1000271 then 4 else if d=1000301 then 4 else 0) (by kernel_rfl) (by kernel_rfl)
theorem fn74:Is74 Tryz.prog sF sT:=aAj (fun d=>if d=1000271 then 4 else if d=1000283 then 4 else 0) (by kernel_rfl) (by kernel_rfl)
theorem bOu:aVz Tryz.prog sF sT:=aAj (fun d=>0) (by kernel_rfl) (by kernel_rfl)
theorem bO2:bLz Tryz.prog sF sT:=aAj (fun d=>0) (by kernel_rfl) (by kernel_rfl)
theorem bRr:bEz Tryz.prog sF sT:=aAj (fun d=>0) (by kernel_rfl) (by kernel_rfl)
theorem bR3:bH7 Tryz.prog sF sT:=aAj (fun d=>0) (by kernel_rfl) (by kernel_rfl)
theorem bO7:bJd Tryz.prog sF sT:=aAj (fun d=>0) (by kernel_rfl) (by kernel_rfl)
theorem bQu:bK0 Tryz.prog sF sT:=aAj (fun d=>if d=1000159 then 4 else if d=1000156 then 4 else if d=1000158 then 4 else 0) (by kernel_rfl) (by kernel_rfl)
theorem bQs:bL9 Tryz.prog sF sT:=aAj (fun d=>if d=62 then 2 else if d=65 then 2 else if d=68 then 2 else if d=114 then 3 else if d=1000097 then 4 else 0) (by kernel_rfl) (by kernel_rfl)
theorem bPz:bIu Tryz.prog sF sT:=aAj (fun d=>if d=28 then 1 else 0) (by kernel_rfl) (by kernel_rfl)
theorem bRt:bI5 Tryz.prog sF sT:=aAj (fun d=>0) (by kernel_rfl) (by kernel_rfl)
theorem bPe:bK9 Tryz.prog sF sT:=aAj (fun d=>if d=22 then 3 else if d=32 then 3 else if d=1000151 then 4 else if d=1000155 then 4 else 0) (by kernel_rfl) (by kernel_rfl)
theorem bO4:aS6 Tryz.prog sF sT:=aAj (fun d=>0) (by kernel_rfl) (by kernel_rfl)
theorem bP7:bH3 Tryz.prog sF sT:=aAj (fun d=>0) (by kernel_rfl) (by kernel_rfl)
theorem bOk:bJn Tryz.prog sF sT:=aAj (fun d=>if d=5 then 1 else 0) (by kernel_rfl) (by kernel_rfl)
theorem bRd:bI4 Tryz.prog sF sT:=aAj (fun d=>if d=1000153 then 4 else 0) (by kernel_rfl) (by kernel_rfl)
theorem bRy:bB1 Tryz.prog sF sT:=aAj (fun d=>0) (by kernel_rfl) (by kernel_rfl)
theorem bR5:bDk Tryz.prog sF sT:=aAj (fun d=>0) (by kernel_rfl) (by kernel_rfl)
theorem fn3:Is3 Tryz.prog sF sT:=aAj (fun d=>0) (by kernel_rfl) (by kernel_rfl)
theorem fn24:Is24 Tryz.prog sF sT:=aAj (fun d=>0) (by kernel_rfl) (by kernel_rfl)
theorem fn25:Is25 Tryz.prog sF sT:=aAj (fun d=>0) (by kernel_rfl) (by kernel_rfl)
theorem fn37:Is37 Tryz.prog sF sT:=aAj (fun d=>if d=1000062 then 4 else if d=1000063 then 4 else if d=1000064 then 4 else 0) (by kernel_rfl) (by kernel_rfl)
theorem fn60:Is60 Tryz.prog sF sT:=aAj (fun d=>if d=1000063 then 4 else if d=1000064 then 4 else if d=1000108 then 4 else if d=1000109 then 4 else if d=1000111 then 4 else if d=1000112 then 4 else if d=1000113 then 4 else if d=1000114 then 4 else if d=1000115 then 4 else if d=1000116 then 4 else if d=1000117 then 4 else 0) (by kernel_rfl) (by kernel_rfl)
theorem fn61:Is61 Tryz.prog sF sT:=aAj (fun d=>if d=1000118 then 4 else 0) (by kernel_rfl) (by kernel_rfl)
theorem fn62:Is62 Tryz.prog sF sT:=aAj (fun d=>0) (by kernel_rfl) (by kernel_rfl)
theorem fn82:Is82 Tryz.prog sF sT:=aAj (fun d=>if d=1000064 then 4 else if d=1000111 then 4 else 0) (by kernel_rfl) (by kernel_rfl)
theorem fn85:Is85 Tryz.prog sF sT:=aAj (fun d=>if d=17 then 2 else 0) (by kernel_rfl) (by kernel_rfl)
theorem fn86:Is86 Tryz.prog sF sT:=aAj (fun d=>if d=1000108 then 4 else 0) (by kernel_rfl) (by kernel_rfl)
theorem fn87:Is87 Tryz.prog sF sT:=aAj (fun d=>if d=1000064 then 4 else if d=1000111 then 4 else if d=1000112 then 4 else 0) (by kernel_rfl) (by kernel_rfl)
theorem bRw:bA0 Tryz.prog sF sT:=aAj (fun d=>0) (by kernel_rfl) (by kernel_rfl)
theorem fn65:Is65 Tryz.prog sF sT:=aAj (fun d=>0) (by kernel_rfl) (by kernel_rfl)
theorem bRl:bHd Tryz.prog sF sT:=aAj (fun d=>0) (by kernel_rfl) (by kernel_rfl)
theorem fn50:Is50 Tryz.prog sF sT:=aAj (fun d=>0) (by kernel_rfl) (by kernel_rfl)
theorem fn81:Is81 Tryz.prog sF sT:=aAj (fun d=>0) (by kernel_rfl) (by kernel_rfl)
theorem bO6:bLl Tryz.prog sF sT:=aAj (fun d=>0) (by kernel_rfl) (by kernel_rfl)
theorem bPj:bJp Tryz.prog sF sT:=aAj (fun d=>0) (by kernel_rfl) (by kernel_rfl)
theorem bOw:aYc Tryz.prog sF sT:=aAj (fun d=>0) (by kernel_rfl) (by kernel_rfl)
theorem bOn:bFp Tryz.prog sF sT:=aAj (fun d=>0) (by kernel_rfl) (by kernel_rfl)
theorem bR2:bJu Tryz.prog sF sT:=aAj (fun d=>0) (by kernel_rfl) (by kernel_rfl)
theorem bOt:bHc Tryz.prog sF sT:=aAj (fun d=>0) (by kernel_rfl) (by kernel_rfl)
theorem bO0:bHk Tryz.prog sF sT:=aAj (fun d=>if d=33 then 1 else 0) (by kernel_rfl) (by kernel_rfl)
theorem bQc:bKm Tryz.prog sF sT:=aAj (fun d=>if d=121 then 3 else 0) (by kernel_rfl) (by kernel_rfl)
theorem bQi:bI9 Tryz.prog sF sT:=aAj (fun d=>if d=38 then 2 else if d=29 then 3 else 0) (by kernel_rfl) (by kernel_rfl)
theorem bQ3:bJ3 Tryz.prog sF sT:=aAj (fun d=>0) (by kernel_rfl) (by kernel_rfl)
theorem bO3:bKh Tryz.prog sF sT:=aAj (fun d=>0) (by kernel_rfl) (by kernel_rfl)
theorem bRs:bB7 Tryz.prog sF sT:=aAj (fun d=>0) (by kernel_rfl) (by kernel_rfl)
end Go.Ab
