/- The functions of this seat, by program. No condition. -/
import Derived.Test.YtjakkhalapaofaaGreatDoorProg
import Derived.Test.YtjakkhalapaofaaGreatDoorAbE5
import Derived.Test.YtjakkhalapaofaaGreatDoorAbP1
import Derived.Test.YtjakkhalapaofaaGreatDoorAbP3
import Derived.Test.YtjakkhalapaofaaGreatDoorAbZ1
import Derived.Test.YtjakkhalapaofaaGreatDoorAbG11
namespace Go.Ab
open Go.Proofs
set_option maxRecDepth 100000
def sF (k:Nat):Nat:=[0,0,239,0,0,0,0,0,0,0,0,0,0,0,0,0,0,0,0,0,0,0,272,159,0,0,0,156,0,296,207,306,307,158,0,0,238,0,0,0,0,0,294,0,0,0,0,0,0,0,0,0,0,0,0,0,268,269,270,271,0,0,0,0,144,0,0,281,282,283,284,285,286,287,288,289,290,291,292,293,295,0,0,0,0,0,0,0,0,0,0,0,0,0,0,0,0,256,278,0,0,0,0,0,299,300,301,302,303,0,0,0,0,0,0,0,309,0,0,0,88,0,0,0,149,0,0,0,221,0,0,150,222,0,0,0,203,204,0,0,208,262,157,240,241,0,0,0,0,0,0,202,0,0,0,0,0,0,0,0,0,0,0,0,0,0,0,0,0,0,0,0,0,0,0,0,0,0,0,0,0,0,0,167,0,0,0,0,0,0,0,0,0,0,0,0,0,0,0,0,0,0,0,0,0,0,0,0,0,0,0,0,0,0,0,0,0,0,0,0,0,0,0,0,0,0,0,0,0,0,0,0,0,0,0,0,0,0,0,0,0,0,0,0,0,0,0,0,0,0,0,0,0,0,0,101,0,56,96,97,98,99,100,151,152,155,154,153,206,242,273,0,0,0,0,0,0,0,0,0,0,0,0,0,0,0,0,0,0,280,0].getD k 0
def sT (k:Nat):Nat:=[158,207,247,5,103,344,342,347,153,150,0,147,317,59,111,4,78,41,179,181,198,9,165,307,3,174,32,34,101,183,187,190,91,96].getD k 0
theorem fn2:Is2 Tryz.prog sF sT:=aAg (fun d=>if d=1000159 then 4 else if d=1000272 then 4 else 0) (by kernel_rfl) (by kernel_rfl)
theorem fn22:Is22 Tryz.prog sF sT:=aAg (fun d=>if d=1000296 then 4 else 0) (by kernel_rfl) (by kernel_rfl)
theorem fn23:Is23 Tryz.prog sF sT:=aAg (fun d=>0) (by kernel_rfl) (by kernel_rfl)
theorem fn27:Is27 Tryz.prog sF sT:=aAg (fun d=>if d=1000207 then 4 else 0) (by kernel_rfl) (by kernel_rfl)
theorem fn29:Is29 Tryz.prog sF sT:=aAg (fun d=>if d=1000156 then 4 else if d=1000272 then 4 else if d=1000306 then 4 else 0) (by kernel_rfl) (by kernel_rfl)
theorem fn30:Is30 Tryz.prog sF sT:=aAg (fun d=>0) (by kernel_rfl) (by kernel_rfl)
theorem fn31:Is31 Tryz.prog sF sT:=aAg (fun d=>if d=1000156 then 4 else if d=1000158 then 4 else if d=1000272 then 4 else 0) (by kernel_rfl) (by kernel_rfl)
theorem fn32:Is32 Tryz.prog sF sT:=aAg (fun d=>0) (by kernel_rfl) (by kernel_rfl)
theorem fn33:Is33 Tryz.prog sF sT:=aAg (fun d=>if d=1000207 then 4 else 0) (by kernel_rfl) (by kernel_rfl)
theorem fn36:Is36 Tryz.prog sF sT:=aAg (fun d=>if d=19 then 1 else if d=1000269 then 4 else if d=1000270 then 4 else if d=1000271 then 4 else 0) (by kernel_rfl) (by kernel_rfl)
theorem fn56:Is56 Tryz.prog sF sT:=aAg (fun d=>0) (by kernel_rfl) (by kernel_rfl)
theorem fn57:Is57 Tryz.prog sF sT:=aAg (fun d=>if d=1000283 then 4 else if d=1000284 then 4 else if d=1000285 then 4 else if d=1000287 then 4 else if d=1000288 then 4 else if d=1000289 then 4 else if d=1000290 then 4 else if d=1000291 then 4 else 0) (by kernel_rfl) (by kernel_rfl)
theorem fn58:Is58 Tryz.prog sF sT:=aAg (fun d=>if d=1000283 then 4 else if d=1000292 then 4 else if d=1000295 then 4 else 0) (by kernel_rfl) (by kernel_rfl)
theorem fn59:Is59 Tryz.prog sF sT:=aAg (fun d=>0) (by kernel_rfl) (by kernel_rfl)
theorem fn67:Is67 Tryz.prog sF sT:=aAg (fun d=>0) (by kernel_rfl) (by kernel_rfl)
theorem fn68:Is68 Tryz.prog sF sT:=aAg (fun d=>0) (by kernel_rfl) (by kernel_rfl)
theorem fn69:Is69 Tryz.prog sF sT:=aAg (fun d=>if d=2000048 then 5 else if d=2000049 then 6 else if d=1000271 then 4 else if d=1000301 then 4 else 0) (by kernel_rfl) (by kernel_rfl)
theorem fn70:Is70 Tryz.prog sF sT:=aAg (fun d=>if d=11 then 2 else if d=2000015 then 5 else if d=2000016 then 6 else if d=1000271 then 4 else if d=1000301 then 4 else 0) (by kernel_rfl) (by kernel_rfl)
theorem fn71:Is71 Tryz.prog sF sT:=aAg (fun d=>if d=1000283 then 4 else 0) (by kernel_rfl) (by kernel_rfl)
theorem fn72:Is72 Tryz.prog sF sT:=aAg (fun d=>0) (by kernel_rfl) (by kernel_rfl)
theorem fn73:Is73 Tryz.prog sF sT:=aAg (fun d=>if d=1000271 then 4 else if d=1000283 then 4 else 0) (by kernel_rfl) (by kernel_rfl)
theorem fn74:Is74 Tryz.prog sF sT:=aAg (fun d=>if d=1000271 then 4 else if d=1000283 then 4 else 0) (by kernel_rfl) (by kernel_rfl)
theorem fn75:Is75 Tryz.prog sF sT:=aAg (fun d=>if d=1000271 then 4 else if d=1000283 then 4 else if d=1000292 then 4 else if d=1000295 then 4 else 0) (by kernel_rfl) (by kernel_rfl)
theorem fn76:Is76 Tryz.prog sF sT:=aAg (fun d=>if d=1000270 then 4 else if d=1000283 then 4 else if d=1000284 then 4 else if d=1000292 then 4 else 0) (by kernel_rfl) (by kernel_rfl)
theorem fn77:Is77 Tryz.prog sF sT:=aAg (fun d=>if d=65 then 1 else if d=1000270 then 4 else if d=1000271 then 4 else if d=1000283 then 4 else if d=1000284 then 4 else if d=1000292 then 4 else if d=1000303 then 4 else 0) (by kernel_rfl) (by kernel_rfl)
theorem fn78:Is78 Tryz.prog sF sT:=aAg (fun d=>if d=1000271 then 4 else 0) (by kernel_rfl) (by kernel_rfl)
theorem fn79:Is79 Tryz.prog sF sT:=aAg (fun d=>0) (by kernel_rfl) (by kernel_rfl)
theorem fn80:Is80 Tryz.prog sF sT:=aAg (fun d=>if d=1000283 then 4 else if d=1000284 then 4 else 0) (by kernel_rfl) (by kernel_rfl)
theorem fn97:Is97 Tryz.prog sF sT:=aAg (fun d=>0) (by kernel_rfl) (by kernel_rfl)
theorem fn98:Is98 Tryz.prog sF sT:=aAg (fun d=>0) (by kernel_rfl) (by kernel_rfl)
theorem bLy:bCi Tryz.prog sF sT:=aAg (fun d=>0) (by kernel_rfl) (by kernel_rfl)
theorem bL0:bA6 Tryz.prog sF sT:=aAg (fun d=>0) (by kernel_rfl) (by kernel_rfl)
theorem bLx:aHb Tryz.prog sF sT:=aAg (fun d=>0) (by kernel_rfl) (by kernel_rfl)
theorem bOe:aVg Tryz.prog sF sT:=aAg (fun d=>0) (by kernel_rfl) (by kernel_rfl)
theorem bNe:bBf Tryz.prog sF sT:=aAg (fun d=>0) (by kernel_rfl) (by kernel_rfl)
theorem bN5:aR2 Tryz.prog sF sT:=aAg (fun d=>0) (by kernel_rfl) (by kernel_rfl)
theorem bNf:bKb Tryz.prog sF sT:=aAg (fun d=>0) (by kernel_rfl) (by kernel_rfl)
theorem bOv:bGq Tryz.prog sF sT:=aAg (fun d=>0) (by kernel_rfl) (by kernel_rfl)
theorem bOc:bGm Tryz.prog sF sT:=aAg (fun d=>0) (by kernel_rfl) (by kernel_rfl)
theorem bMf:bFu Tryz.prog sF sT:=aAg (fun d=>0) (by kernel_rfl) (by kernel_rfl)
theorem bO3:bFm Tryz.prog sF sT:=aAg (fun d=>0) (by kernel_rfl) (by kernel_rfl)
theorem bOn:bA7 Tryz.prog sF sT:=aAg (fun d=>0) (by kernel_rfl) (by kernel_rfl)
theorem bPw:bKj Tryz.prog sF sT:=aAg (fun d=>0) (by kernel_rfl) (by kernel_rfl)
end Go.Ab
