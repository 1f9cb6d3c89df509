/- The functions of this seat, by program. No condition. -/
import Derived.Test.YtdnhjbdnebokiaaGreatDoorProg
import Derived.Test.YtdnhjbdnebokiaaGreatDoorAbE5
import Derived.Test.YtdnhjbdnebokiaaGreatDoorAbP1
import Derived.Test.YtdnhjbdnebokiaaGreatDoorAbP3
import Derived.Test.YtdnhjbdnebokiaaGreatDoorAbZ1
import Derived.Test.YtdnhjbdnebokiaaGreatDoorAbM1
namespace Go.Ab
open Go.Proofs
set_option maxRecDepth 100000
def sF (k:Nat):Nat:=[0,0,194,0,0,0,0,0,0,0,0,0,0,0,0,0,0,0,0,0,0,0,228,118,0,0,0,115,0,252,161,262,263,117,0,0,193,0,0,0,0,0,250,0,0,0,0,0,0,0,0,0,0,0,0,0,224,225,226,227,0,0,0,0,103,0,0,237,238,239,240,241,242,243,244,245,246,247,248,249,251,0,0,0,0,0,0,0,0,0,0,0,0,0,0,0,0,211,234,0,0,0,127,0,255,256,257,258,259,0,0,0,0,0,0,0,265,0,0,0,59,0,0,0,108,181,0,0,175,0,0,109,176,0,0,0,157,158,221,0,162,217,116,195,196,0,0,0,0,0,0,156,0,0,0,0,0,0,0,0,0,0,0,0,0,0,0,0,0,0,0,0,0,0,0,0,0,0,0,0,0,0,0,126,0,0,0,0,0,0,0,0,0,0,0,0,0,0,0,0,0,0,0,0,0,0,0,0,0,0,0,0,0,0,0,0,0,0,0,0,0,0,0,0,0,0,0,0,0,0,0,0,0,0,0,0,0,0,0,0,0,0,0,0,0,0,0,0,0,0,0,0,0,0,0,72,0,36,67,68,69,70,71,110,111,114,113,112,160,197,229,0,0,0,0,0,0,0,0,0,0,0,0,0,0,0,0,0,0,236,0].getD k 0
def sT (k:Nat):Nat:=[262,320,193,5,257,298,296,301,303,0,0,0,268,326,185,4,59,32,123,125,149,9,108,251,3,118,34,36,135,128,137,140,127,0].getD k 0
theorem fn2:Is2 Tryz.prog sF sT:=aAi (fun d=>if d=1000118 then 4 else if d=1000228 then 4 else 0) (by kernel_rfl) (by kernel_rfl)
theorem fn22:Is22 Tryz.prog sF sT:=aAi (fun d=>if d=1000252 then 4 else 0) (by kernel_rfl) (by kernel_rfl)
theorem fn23:Is23 Tryz.prog sF sT:=aAi (fun d=>0) (by kernel_rfl) (by kernel_rfl)
theorem fn27:Is27 Tryz.prog sF sT:=aAi (fun d=>if d=1000161 then 4 else 0) (by kernel_rfl) (by kernel_rfl)
theorem fn29:Is29 Tryz.prog sF sT:=aAi (fun d=>if d=1000115 then 4 else if d=1000228 then 4 else if d=1000262 then 4 else 0) (by kernel_rfl) (by kernel_rfl)
theorem fn30:Is30 Tryz.prog sF sT:=aAi (fun d=>0) (by kernel_rfl) (by kernel_rfl)
theorem fn31:Is31 Tryz.prog sF sT:=aAi (fun d=>if d=1000115 then 4 else if d=1000117 then 4 else if d=1000228 then 4 else 0) (by kernel_rfl) (by kernel_rfl)
theorem fn32:Is32 Tryz.prog sF sT:=aAi (fun d=>0) (by kernel_rfl) (by kernel_rfl)
theorem fn33:Is33 Tryz.prog sF sT:=aAi (fun d=>if d=1000161 then 4 else 0) (by kernel_rfl) (by kernel_rfl)
theorem fn36:Is36 Tryz.prog sF sT:=aAi (fun d=>if d=19 then 1 else if d=1000225 then 4 else if d=1000226 then 4 else if d=1000227 then 4 else 0) (by kernel_rfl) (by kernel_rfl)
theorem fn56:Is56 Tryz.prog sF sT:=aAi (fun d=>0) (by kernel_rfl) (by kernel_rfl)
theorem fn57:Is57 Tryz.prog sF sT:=aAi (fun d=>if d=1000239 then 4 else if d=1000240 then 4 else if d=1000241 then 4 else if d=1000243 then 4 else if d=1000244 then 4 else if d=1000245 then 4 else if d=1000246 then 4 else if d=1000247 then 4 else 0) (by kernel_rfl) (by kernel_rfl)
theorem fn59:Is59 Tryz.prog sF sT:=aAi (fun d=>0) (by kernel_rfl) (by kernel_rfl)
theorem fn67:Is67 Tryz.prog sF sT:=aAi (fun d=>0) (by kernel_rfl) (by kernel_rfl)
theorem fn68:Is68 Tryz.prog sF sT:=aAi (fun d=>0) (by kernel_rfl) (by kernel_rfl)
theorem fn69:Is69 Tryz.prog sF sT:=aAi (fun d=>if d=2000048 then 5 else if d=2000049 then 6 else if d=1000227 then 4 else if d=1000257 then 4 else 0) (by kernel_rfl) (by kernel_rfl)
theorem fn74:Is74 Tryz.prog sF sT:=aAi (fun d=>if d=1000227 then 4 else if d=1000239 then 4 else 0) (by kernel_rfl) (by kernel_rfl)
theorem bN2:aT8 Tryz.prog sF sT:=aAi (fun d=>0) (by kernel_rfl) (by kernel_rfl)
theorem bN3:bIu Tryz.prog sF sT:=aAi (fun d=>0) (by kernel_rfl) (by kernel_rfl)
theorem bOx:bC9 Tryz.prog sF sT:=aAi (fun d=>0) (by kernel_rfl) (by kernel_rfl)
theorem bNs:bH4 Tryz.prog sF sT:=aAi (fun d=>0) (by kernel_rfl) (by kernel_rfl)
theorem bNx:bF7 Tryz.prog sF sT:=aAi (fun d=>0) (by kernel_rfl) (by kernel_rfl)
theorem bMv:bK2 Tryz.prog sF sT:=aAi (fun d=>if d=1000118 then 4 else if d=1000115 then 4 else if d=1000117 then 4 else 0) (by kernel_rfl) (by kernel_rfl)
theorem bNa:bIw Tryz.prog sF sT:=aAi (fun d=>if d=62 then 2 else if d=65 then 2 else if d=68 then 2 else if d=114 then 3 else if d=1000068 then 4 else 0) (by kernel_rfl) (by kernel_rfl)
theorem bNp:bFy Tryz.prog sF sT:=aAi (fun d=>if d=28 then 1 else 0) (by kernel_rfl) (by kernel_rfl)
theorem bOu:bFh Tryz.prog sF sT:=aAi (fun d=>0) (by kernel_rfl) (by kernel_rfl)
theorem bO4:bIm Tryz.prog sF sT:=aAi (fun d=>if d=22 then 3 else if d=32 then 3 else if d=1000110 then 4 else if d=1000114 then 4 else 0) (by kernel_rfl) (by kernel_rfl)
theorem bMg:aRr Tryz.prog sF sT:=aAi (fun d=>0) (by kernel_rfl) (by kernel_rfl)
theorem bMu:bGo Tryz.prog sF sT:=aAi (fun d=>0) (by kernel_rfl) (by kernel_rfl)
theorem bL7:bHz Tryz.prog sF sT:=aAi (fun d=>if d=5 then 1 else 0) (by kernel_rfl) (by kernel_rfl)
theorem bM9:bGm Tryz.prog sF sT:=aAi (fun d=>if d=1000112 then 4 else 0) (by kernel_rfl) (by kernel_rfl)
theorem bNe:aY3 Tryz.prog sF sT:=aAi (fun d=>0) (by kernel_rfl) (by kernel_rfl)
theorem bL0:bBx Tryz.prog sF sT:=aAi (fun d=>0) (by kernel_rfl) (by kernel_rfl)
end Go.Ab
