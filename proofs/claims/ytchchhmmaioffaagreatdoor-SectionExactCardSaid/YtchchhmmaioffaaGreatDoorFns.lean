/- The functions of this seat, by program. No condition. -/
import Derived.Test.YtchchhmmaioffaaGreatDoorProg
import Derived.Test.YtchchhmmaioffaaGreatDoorAbE5
import Derived.Test.YtchchhmmaioffaaGreatDoorAbP1
import Derived.Test.YtchchhmmaioffaaGreatDoorAbP3
import Derived.Test.YtchchhmmaioffaaGreatDoorAbR0
import Derived.Test.YtchchhmmaioffaaGreatDoorAbR1
import Derived.Test.YtchchhmmaioffaaGreatDoorAbR7
import Derived.Test.YtchchhmmaioffaaGreatDoorAbZ1
import Derived.Test.YtchchhmmaioffaaGreatDoorAbZ4
namespace Go.Ab
open Go.Proofs
set_option maxRecDepth 100000
def sF (k : Nat) : Nat := [0, 0, 34, 43, 0, 0, 0, 0, 0, 0, 0, 0, 0, 0, 0, 0, 0, 0, 0, 0, 0, 0, 52, 53, 75, 76, 0, 112, 0, 93, 124, 114, 115, 126, 0, 0, 33, 24, 0, 11, 12, 0, 91, 0, 0, 0, 28, 27, 0, 0, 39, 0, 0, 0, 0, 0, 48, 49, 50, 51, 40, 41, 42, 29, 119, 62, 0, 78, 79, 80, 81, 82, 83, 84, 85, 86, 87, 88, 89, 90, 92, 63, 64, 65, 66, 67, 68, 69, 70, 71, 72, 73, 74, 46, 109, 121, 122, 110, 123, 113, 130, 98, 99, 100, 104, 105, 106, 107, 108, 101, 102, 103, 77, 0, 56, 94, 120, 128, 133, 134, 22, 35, 127, 0, 8, 45, 7, 0, 0, 0, 0, 17, 13, 0, 19, 0, 21, 23, 44, 10, 38, 30, 32, 36, 37, 55, 59, 57, 60, 58, 61, 47, 97, 96, 95, 118, 117, 116, 3, 9, 4, 14, 15, 16, 18, 5, 6, 20, 25, 26, 31].getD k 0
def sT (k : Nat) : Nat := [64, 110, 93, 5, 48, 85, 83, 88, 78, 75, 55, 72, 98, 135, 41, 4].getD k 0
theorem fn2 : Is2 Tryz.prog sF sT := by
 refine ⟨⟨Tryz.prog.funcs[sF 2]?.getD default, (Tryz.prog.funcs[sF 2]?.getD default).body.getD .skip, fun d => if d = 1000053 then 4 else if d = 1000052 then 4 else 0, ?_, ?_, ?_, ?_, ?_⟩, ?_, ?_⟩
 ·kernel_rfl
 ·kernel_rfl
 ·kernel_rfl
 ·kernel_rfl
 ·kernel_rfl
 ·rfl
 ·decide
theorem fn3 : Is3 Tryz.prog sF sT := by
 refine ⟨⟨Tryz.prog.funcs[sF 3]?.getD default, (Tryz.prog.funcs[sF 3]?.getD default).body.getD .skip, fun d => 0, ?_, ?_, ?_, ?_, ?_⟩, ?_, ?_⟩
 ·kernel_rfl
 ·kernel_rfl
 ·kernel_rfl
 ·kernel_rfl
 ·kernel_rfl
 ·rfl
 ·decide
theorem fn22 : Is22 Tryz.prog sF sT := by
 refine ⟨⟨Tryz.prog.funcs[sF 22]?.getD default, (Tryz.prog.funcs[sF 22]?.getD default).body.getD .skip, fun d => if d = 1000093 then 4 else 0, ?_, ?_, ?_, ?_, ?_⟩, ?_, ?_⟩
 ·kernel_rfl
 ·kernel_rfl
 ·kernel_rfl
 ·kernel_rfl
 ·kernel_rfl
 ·rfl
 ·decide
theorem fn23 : Is23 Tryz.prog sF sT := by
 refine ⟨⟨Tryz.prog.funcs[sF 23]?.getD default, (Tryz.prog.funcs[sF 23]?.getD default).body.getD .skip, fun d => 0, ?_, ?_, ?_, ?_, ?_⟩, ?_, ?_⟩
 ·kernel_rfl
 ·kernel_rfl
 ·kernel_rfl
 ·kernel_rfl
 ·kernel_rfl
 ·rfl
 ·decide
theorem fn24 : Is24 Tryz.prog sF sT := by
 refine ⟨⟨Tryz.prog.funcs[sF 24]?.getD default, (Tryz.prog.funcs[sF 24]?.getD default).body.getD .skip, fun d => 0, ?_, ?_, ?_, ?_, ?_⟩, ?_, ?_⟩
 ·kernel_rfl
 ·kernel_rfl
 ·kernel_rfl
 ·kernel_rfl
 ·kernel_rfl
 ·rfl
 ·decide
theorem fn25 : Is25 Tryz.prog sF sT := by
 refine ⟨⟨Tryz.prog.funcs[sF 25]?.getD default, (Tryz.prog.funcs[sF 25]?.getD default).body.getD .skip, fun d => 0, ?_, ?_, ?_, ?_, ?_⟩, ?_, ?_⟩
 ·kernel_rfl
 ·kernel_rfl
 ·kernel_rfl
 ·kernel_rfl
 ·kernel_rfl
 ·rfl
 ·decide
theorem fn27 : Is27 Tryz.prog sF sT := by
 refine ⟨⟨Tryz.prog.funcs[sF 27]?.getD default, (Tryz.prog.funcs[sF 27]?.getD default).body.getD .skip, fun d => if d = 1000124 then 4 else 0, ?_, ?_, ?_, ?_, ?_⟩, ?_, ?_⟩
 ·kernel_rfl
 ·kernel_rfl
 ·kernel_rfl
 ·kernel_rfl
 ·kernel_rfl
 ·rfl
 ·decide
theorem fn29 : Is29 Tryz.prog sF sT := by
 refine ⟨⟨Tryz.prog.funcs[sF 29]?.getD default, (Tryz.prog.funcs[sF 29]?.getD default).body.getD .skip, fun d => if d = 1000112 then 4 else if d = 1000052 then 4 else if d = 1000114 then 4 else 0, ?_, ?_, ?_, ?_, ?_⟩, ?_, ?_⟩
 ·kernel_rfl
 ·kernel_rfl
 ·kernel_rfl
 ·kernel_rfl
 ·kernel_rfl
 ·rfl
 ·decide
theorem fn30 : Is30 Tryz.prog sF sT := by
 refine ⟨⟨Tryz.prog.funcs[sF 30]?.getD default, (Tryz.prog.funcs[sF 30]?.getD default).body.getD .skip, fun d => 0, ?_, ?_, ?_, ?_, ?_⟩, ?_, ?_⟩
 ·kernel_rfl
 ·kernel_rfl
 ·kernel_rfl
 ·kernel_rfl
 ·kernel_rfl
 ·rfl
 ·decide
theorem fn31 : Is31 Tryz.prog sF sT := by
 refine ⟨⟨Tryz.prog.funcs[sF 31]?.getD default, (Tryz.prog.funcs[sF 31]?.getD default).body.getD .skip, fun d => if d = 1000112 then 4 else if d = 1000126 then 4 else if d = 1000052 then 4 else 0, ?_, ?_, ?_, ?_, ?_⟩, ?_, ?_⟩
 ·kernel_rfl
 ·kernel_rfl
 ·kernel_rfl
 ·kernel_rfl
 ·kernel_rfl
 ·rfl
 ·decide
theorem fn32 : Is32 Tryz.prog sF sT := by
 refine ⟨⟨Tryz.prog.funcs[sF 32]?.getD default, (Tryz.prog.funcs[sF 32]?.getD default).body.getD .skip, fun d => 0, ?_, ?_, ?_, ?_, ?_⟩, ?_, ?_⟩
 ·kernel_rfl
 ·kernel_rfl
 ·kernel_rfl
 ·kernel_rfl
 ·kernel_rfl
 ·rfl
 ·decide
theorem fn33 : Is33 Tryz.prog sF sT := by
 refine ⟨⟨Tryz.prog.funcs[sF 33]?.getD default, (Tryz.prog.funcs[sF 33]?.getD default).body.getD .skip, fun d => if d = 1000124 then 4 else 0, ?_, ?_, ?_, ?_, ?_⟩, ?_, ?_⟩
 ·kernel_rfl
 ·kernel_rfl
 ·kernel_rfl
 ·kernel_rfl
 ·kernel_rfl
 ·rfl
 ·decide
theorem fn36 : Is36 Tryz.prog sF sT := by
 refine ⟨⟨Tryz.prog.funcs[sF 36]?.getD default, (Tryz.prog.funcs[sF 36]?.getD default).body.getD .skip, fun d => if d = 19 then 1 else if d = 1000049 then 4 else if d = 1000050 then 4 else if d = 1000051 then 4 else 0, ?_, ?_, ?_, ?_, ?_⟩, ?_, ?_⟩
 ·kernel_rfl
 ·kernel_rfl
 ·kernel_rfl
 ·kernel_rfl
 ·kernel_rfl
 ·rfl
 ·decide
theorem fn37 : Is37 Tryz.prog sF sT := by
 refine ⟨⟨Tryz.prog.funcs[sF 37]?.getD default, (Tryz.prog.funcs[sF 37]?.getD default).body.getD .skip, fun d => if d = 1000040 then 4 else if d = 1000041 then 4 else if d = 1000042 then 4 else 0, ?_, ?_, ?_, ?_, ?_⟩, ?_, ?_⟩
 ·kernel_rfl
 ·kernel_rfl
 ·kernel_rfl
 ·kernel_rfl
 ·kernel_rfl
 ·rfl
 ·decide
theorem fn39 : Is39 Tryz.prog sF sT := by
 refine ⟨⟨Tryz.prog.funcs[sF 39]?.getD default, (Tryz.prog.funcs[sF 39]?.getD default).body.getD .skip, fun d => 0, ?_, ?_, ?_, ?_, ?_⟩, ?_, ?_⟩
 ·kernel_rfl
 ·kernel_rfl
 ·kernel_rfl
 ·kernel_rfl
 ·kernel_rfl
 ·rfl
 ·decide
theorem fn40 : Is40 Tryz.prog sF sT := by
 refine ⟨⟨Tryz.prog.funcs[sF 40]?.getD default, (Tryz.prog.funcs[sF 40]?.getD default).body.getD .skip, fun d => if d = 1000028 then 4 else if d = 1000027 then 4 else if d = 1000029 then 4 else 0, ?_, ?_, ?_, ?_, ?_⟩, ?_, ?_⟩
 ·kernel_rfl
 ·kernel_rfl
 ·kernel_rfl
 ·kernel_rfl
 ·kernel_rfl
 ·rfl
 ·decide
theorem fn46 : Is46 Tryz.prog sF sT := by
 refine ⟨⟨Tryz.prog.funcs[sF 46]?.getD default, (Tryz.prog.funcs[sF 46]?.getD default).body.getD .skip, fun d => 0, ?_, ?_, ?_, ?_, ?_⟩, ?_, ?_⟩
 ·kernel_rfl
 ·kernel_rfl
 ·kernel_rfl
 ·kernel_rfl
 ·kernel_rfl
 ·rfl
 ·decide
theorem fn47 : Is47 Tryz.prog sF sT := by
 refine ⟨⟨Tryz.prog.funcs[sF 47]?.getD default, (Tryz.prog.funcs[sF 47]?.getD default).body.getD .skip, fun d => if d = 1000028 then 4 else 0, ?_, ?_, ?_, ?_, ?_⟩, ?_, ?_⟩
 ·kernel_rfl
 ·kernel_rfl
 ·kernel_rfl
 ·kernel_rfl
 ·kernel_rfl
 ·rfl
 ·decide
theorem fn50 : Is50 Tryz.prog sF sT := by
 refine ⟨⟨Tryz.prog.funcs[sF 50]?.getD default, (Tryz.prog.funcs[sF 50]?.getD default).body.getD .skip, fun d => 0, ?_, ?_, ?_, ?_, ?_⟩, ?_, ?_⟩
 ·kernel_rfl
 ·kernel_rfl
 ·kernel_rfl
 ·kernel_rfl
 ·kernel_rfl
 ·rfl
 ·decide
theorem fn56 : Is56 Tryz.prog sF sT := by
 refine ⟨⟨Tryz.prog.funcs[sF 56]?.getD default, (Tryz.prog.funcs[sF 56]?.getD default).body.getD .skip, fun d => 0, ?_, ?_, ?_, ?_, ?_⟩, ?_, ?_⟩
 ·kernel_rfl
 ·kernel_rfl
 ·kernel_rfl
 ·kernel_rfl
 ·kernel_rfl
 ·rfl
 ·decide
theorem fn57 : Is57 Tryz.prog sF sT := by
 refine ⟨⟨Tryz.prog.funcs[sF 57]?.getD default, (Tryz.prog.funcs[sF 57]?.getD default).body.getD .skip, fun d => if d = 1000080 then 4 else if d = 1000081 then 4 else if d = 1000082 then 4 else if d = 1000084 then 4 else if d = 1000085 then 4 else if d = 1000086 then 4 else if d = 1000087 then 4 else if d = 1000088 then 4 else 0, ?_, ?_, ?_, ?_, ?_⟩, ?_, ?_⟩
 ·kernel_rfl
 ·kernel_rfl
 ·kernel_rfl
 ·kernel_rfl
 ·kernel_rfl
 ·rfl
 ·decide
theorem fn58 : Is58 Tryz.prog sF sT := by
 refine ⟨⟨Tryz.prog.funcs[sF 58]?.getD default, (Tryz.prog.funcs[sF 58]?.getD default).body.getD .skip, fun d => if d = 1000080 then 4 else if d = 1000089 then 4 else if d = 1000092 then 4 else 0, ?_, ?_, ?_, ?_, ?_⟩, ?_, ?_⟩
 ·kernel_rfl
 ·kernel_rfl
 ·kernel_rfl
 ·kernel_rfl
 ·kernel_rfl
 ·rfl
 ·decide
theorem fn59 : Is59 Tryz.prog sF sT := by
 refine ⟨⟨Tryz.prog.funcs[sF 59]?.getD default, (Tryz.prog.funcs[sF 59]?.getD default).body.getD .skip, fun d => 0, ?_, ?_, ?_, ?_, ?_⟩, ?_, ?_⟩
 ·kernel_rfl
 ·kernel_rfl
 ·kernel_rfl
 ·kernel_rfl
 ·kernel_rfl
 ·rfl
 ·decide
theorem fn60 : Is60 Tryz.prog sF sT := by
 refine ⟨⟨Tryz.prog.funcs[sF 60]?.getD default, (Tryz.prog.funcs[sF 60]?.getD default).body.getD .skip, fun d => if d = 1000041 then 4 else if d = 1000042 then 4 else if d = 1000064 then 4 else if d = 1000065 then 4 else if d = 1000067 then 4 else if d = 1000068 then 4 else if d = 1000069 then 4 else if d = 1000070 then 4 else if d = 1000071 then 4 else if d = 1000072 then 4 else if d = 1000073 then 4 else 0, ?_, ?_, ?_, ?_, ?_⟩, ?_, ?_⟩
 ·kernel_rfl
 ·kernel_rfl
 ·kernel_rfl
 ·kernel_rfl
 ·kernel_rfl
 ·rfl
 ·decide
theorem fn61 : Is61 Tryz.prog sF sT := by
 refine ⟨⟨Tryz.prog.funcs[sF 61]?.getD default, (Tryz.prog.funcs[sF 61]?.getD default).body.getD .skip, fun d => if d = 1000074 then 4 else 0, ?_, ?_, ?_, ?_, ?_⟩, ?_, ?_⟩
 ·kernel_rfl
 ·kernel_rfl
 ·kernel_rfl
 ·kernel_rfl
 ·kernel_rfl
 ·rfl
 ·decide
theorem fn62 : Is62 Tryz.prog sF sT := by
 refine ⟨⟨Tryz.prog.funcs[sF 62]?.getD default, (Tryz.prog.funcs[sF 62]?.getD default).body.getD .skip, fun d => 0, ?_, ?_, ?_, ?_, ?_⟩, ?_, ?_⟩
 ·kernel_rfl
 ·kernel_rfl
 ·kernel_rfl
 ·kernel_rfl
 ·kernel_rfl
 ·rfl
 ·decide
theorem fn63 : Is63 Tryz.prog sF sT := by
 refine ⟨⟨Tryz.prog.funcs[sF 63]?.getD default, (Tryz.prog.funcs[sF 63]?.getD default).body.getD .skip, fun d => if d = 1000028 then 4 else if d = 1000027 then 4 else if d = 1000046 then 4 else 0, ?_, ?_, ?_, ?_, ?_⟩, ?_, ?_⟩
 ·kernel_rfl
 ·kernel_rfl
 ·kernel_rfl
 ·kernel_rfl
 ·kernel_rfl
 ·rfl
 ·decide
theorem fn65 : Is65 Tryz.prog sF sT := by
 refine ⟨⟨Tryz.prog.funcs[sF 65]?.getD default, (Tryz.prog.funcs[sF 65]?.getD default).body.getD .skip, fun d => 0, ?_, ?_, ?_, ?_, ?_⟩, ?_, ?_⟩
 ·kernel_rfl
 ·kernel_rfl
 ·kernel_rfl
 ·kernel_rfl
 ·kernel_rfl
 ·rfl
 ·decide
theorem fn67 : Is67 Tryz.prog sF sT := by
 refine ⟨⟨Tryz.prog.funcs[sF 67]?.getD default, (Tryz.prog.funcs[sF 67]?.getD default).body.getD .skip, fun d => 0, ?_, ?_, ?_, ?_, ?_⟩, ?_, ?_⟩
 ·kernel_rfl
 ·kernel_rfl
 ·kernel_rfl
 ·kernel_rfl
 ·kernel_rfl
 ·rfl
 ·decide
theorem fn68 : Is68 Tryz.prog sF sT := by
 refine ⟨⟨Tryz.prog.funcs[sF 68]?.getD default, (Tryz.prog.funcs[sF 68]?.getD default).body.getD .skip, fun d => 0, ?_, ?_, ?_, ?_, ?_⟩, ?_, ?_⟩
 ·kernel_rfl
 ·kernel_rfl
 ·kernel_rfl
 ·kernel_rfl
 ·kernel_rfl
 ·rfl
 ·decide
theorem fn69 : Is69 Tryz.prog sF sT := by
 refine ⟨⟨Tryz.prog.funcs[sF 69]?.getD default, (Tryz.prog.funcs[sF 69]?.getD default).body.getD .skip, fun d => if d = 2000048 then 5 else if d = 2000049 then 6 else if d = 1000051 then 4 else if d = 1000106 then 4 else 0, ?_, ?_, ?_, ?_, ?_⟩, ?_, ?_⟩
 ·kernel_rfl
 ·kernel_rfl
 ·kernel_rfl
 ·kernel_rfl
 ·kernel_rfl
 ·rfl
 ·decide
theorem fn70 : Is70 Tryz.prog sF sT := by
 refine ⟨⟨Tryz.prog.funcs[sF 70]?.getD default, (Tryz.prog.funcs[sF 70]?.getD default).body.getD .skip, fun d => if d = 11 then 2 else if d = 2000015 then 5 else if d = 2000016 then 6 else if d = 1000051 then 4 else if d = 1000106 then 4 else 0, ?_, ?_, ?_, ?_, ?_⟩, ?_, ?_⟩
 ·kernel_rfl
 ·kernel_rfl
 ·kernel_rfl
 ·kernel_rfl
 ·kernel_rfl
 ·rfl
 ·decide
theorem fn71 : Is71 Tryz.prog sF sT := by
 refine ⟨⟨Tryz.prog.funcs[sF 71]?.getD default, (Tryz.prog.funcs[sF 71]?.getD default).body.getD .skip, fun d => if d = 1000080 then 4 else 0, ?_, ?_, ?_, ?_, ?_⟩, ?_, ?_⟩
 ·kernel_rfl
 ·kernel_rfl
 ·kernel_rfl
 ·kernel_rfl
 ·kernel_rfl
 ·rfl
 ·decide
theorem fn72 : Is72 Tryz.prog sF sT := by
 refine ⟨⟨Tryz.prog.funcs[sF 72]?.getD default, (Tryz.prog.funcs[sF 72]?.getD default).body.getD .skip, fun d => 0, ?_, ?_, ?_, ?_, ?_⟩, ?_, ?_⟩
 ·kernel_rfl
 ·kernel_rfl
 ·kernel_rfl
 ·kernel_rfl
 ·kernel_rfl
 ·rfl
 ·decide
theorem fn73 : Is73 Tryz.prog sF sT := by
 refine ⟨⟨Tryz.prog.funcs[sF 73]?.getD default, (Tryz.prog.funcs[sF 73]?.getD default).body.getD .skip, fun d => if d = 1000051 then 4 else if d = 1000080 then 4 else 0, ?_, ?_, ?_, ?_, ?_⟩, ?_, ?_⟩
 ·kernel_rfl
 ·kernel_rfl
 ·kernel_rfl
 ·kernel_rfl
 ·kernel_rfl
 ·rfl
 ·decide
theorem fn74 : Is74 Tryz.prog sF sT := by
 refine ⟨⟨Tryz.prog.funcs[sF 74]?.getD default, (Tryz.prog.funcs[sF 74]?.getD default).body.getD .skip, fun d => if d = 1000051 then 4 else if d = 1000080 then 4 else 0, ?_, ?_, ?_, ?_, ?_⟩, ?_, ?_⟩
 ·kernel_rfl
 ·kernel_rfl
 ·kernel_rfl
 ·kernel_rfl
 ·kernel_rfl
 ·rfl
 ·decide
theorem fn75 : Is75 Tryz.prog sF sT := by
 refine ⟨⟨Tryz.prog.funcs[sF 75]?.getD default, (Tryz.prog.funcs[sF 75]?.getD default).body.getD .skip, fun d => if d = 1000051 then 4 else if d = 1000080 then 4 else if d = 1000089 then 4 else if d = 1000092 then 4 else 0, ?_, ?_, ?_, ?_, ?_⟩, ?_, ?_⟩
 ·kernel_rfl
 ·kernel_rfl
 ·kernel_rfl
 ·kernel_rfl
 ·kernel_rfl
 ·rfl
 ·decide
theorem fn76 : Is76 Tryz.prog sF sT := by
 refine ⟨⟨Tryz.prog.funcs[sF 76]?.getD default, (Tryz.prog.funcs[sF 76]?.getD default).body.getD .skip, fun d => if d = 1000050 then 4 else if d = 1000080 then 4 else if d = 1000081 then 4 else if d = 1000089 then 4 else 0, ?_, ?_, ?_, ?_, ?_⟩, ?_, ?_⟩
 ·kernel_rfl
 ·kernel_rfl
 ·kernel_rfl
 ·kernel_rfl
 ·kernel_rfl
 ·rfl
 ·decide
theorem fn77 : Is77 Tryz.prog sF sT := by
 refine ⟨⟨Tryz.prog.funcs[sF 77]?.getD default, (Tryz.prog.funcs[sF 77]?.getD default).body.getD .skip, fun d => if d = 65 then 1 else if d = 1000050 then 4 else if d = 1000051 then 4 else if d = 1000080 then 4 else if d = 1000081 then 4 else if d = 1000089 then 4 else if d = 1000108 then 4 else 0, ?_, ?_, ?_, ?_, ?_⟩, ?_, ?_⟩
 ·kernel_rfl
 ·kernel_rfl
 ·kernel_rfl
 ·kernel_rfl
 ·kernel_rfl
 ·rfl
 ·decide
theorem fn78 : Is78 Tryz.prog sF sT := by
 refine ⟨⟨Tryz.prog.funcs[sF 78]?.getD default, (Tryz.prog.funcs[sF 78]?.getD default).body.getD .skip, fun d => if d = 1000051 then 4 else 0, ?_, ?_, ?_, ?_, ?_⟩, ?_, ?_⟩
 ·kernel_rfl
 ·kernel_rfl
 ·kernel_rfl
 ·kernel_rfl
 ·kernel_rfl
 ·rfl
 ·decide
theorem fn79 : Is79 Tryz.prog sF sT := by
 refine ⟨⟨Tryz.prog.funcs[sF 79]?.getD default, (Tryz.prog.funcs[sF 79]?.getD default).body.getD .skip, fun d => 0, ?_, ?_, ?_, ?_, ?_⟩, ?_, ?_⟩
 ·kernel_rfl
 ·kernel_rfl
 ·kernel_rfl
 ·kernel_rfl
 ·kernel_rfl
 ·rfl
 ·decide
theorem fn80 : Is80 Tryz.prog sF sT := by
 refine ⟨⟨Tryz.prog.funcs[sF 80]?.getD default, (Tryz.prog.funcs[sF 80]?.getD default).body.getD .skip, fun d => if d = 1000080 then 4 else if d = 1000081 then 4 else 0, ?_, ?_, ?_, ?_, ?_⟩, ?_, ?_⟩
 ·kernel_rfl
 ·kernel_rfl
 ·kernel_rfl
 ·kernel_rfl
 ·kernel_rfl
 ·rfl
 ·decide
theorem fn81 : Is81 Tryz.prog sF sT := by
 refine ⟨⟨Tryz.prog.funcs[sF 81]?.getD default, (Tryz.prog.funcs[sF 81]?.getD default).body.getD .skip, fun d => 0, ?_, ?_, ?_, ?_, ?_⟩, ?_, ?_⟩
 ·kernel_rfl
 ·kernel_rfl
 ·kernel_rfl
 ·kernel_rfl
 ·kernel_rfl
 ·rfl
 ·decide
theorem fn82 : Is82 Tryz.prog sF sT := by
 refine ⟨⟨Tryz.prog.funcs[sF 82]?.getD default, (Tryz.prog.funcs[sF 82]?.getD default).body.getD .skip, fun d => if d = 1000042 then 4 else if d = 1000067 then 4 else 0, ?_, ?_, ?_, ?_, ?_⟩, ?_, ?_⟩
 ·kernel_rfl
 ·kernel_rfl
 ·kernel_rfl
 ·kernel_rfl
 ·kernel_rfl
 ·rfl
 ·decide
theorem fn83 : Is83 Tryz.prog sF sT := by
 refine ⟨⟨Tryz.prog.funcs[sF 83]?.getD default, (Tryz.prog.funcs[sF 83]?.getD default).body.getD .skip, fun d => if d = 22 then 2 else if d = 1000068 then 4 else 0, ?_, ?_, ?_, ?_, ?_⟩, ?_, ?_⟩
 ·kernel_rfl
 ·kernel_rfl
 ·kernel_rfl
 ·kernel_rfl
 ·kernel_rfl
 ·rfl
 ·decide
theorem fn84 : Is84 Tryz.prog sF sT := by
 refine ⟨⟨Tryz.prog.funcs[sF 84]?.getD default, (Tryz.prog.funcs[sF 84]?.getD default).body.getD .skip, fun d => 0, ?_, ?_, ?_, ?_, ?_⟩, ?_, ?_⟩
 ·kernel_rfl
 ·kernel_rfl
 ·kernel_rfl
 ·kernel_rfl
 ·kernel_rfl
 ·rfl
 ·decide
theorem fn85 : Is85 Tryz.prog sF sT := by
 refine ⟨⟨Tryz.prog.funcs[sF 85]?.getD default, (Tryz.prog.funcs[sF 85]?.getD default).body.getD .skip, fun d => if d = 17 then 2 else 0, ?_, ?_, ?_, ?_, ?_⟩, ?_, ?_⟩
 ·kernel_rfl
 ·kernel_rfl
 ·kernel_rfl
 ·kernel_rfl
 ·kernel_rfl
 ·rfl
 ·decide
theorem fn86 : Is86 Tryz.prog sF sT := by
 refine ⟨⟨Tryz.prog.funcs[sF 86]?.getD default, (Tryz.prog.funcs[sF 86]?.getD default).body.getD .skip, fun d => if d = 1000064 then 4 else 0, ?_, ?_, ?_, ?_, ?_⟩, ?_, ?_⟩
 ·kernel_rfl
 ·kernel_rfl
 ·kernel_rfl
 ·kernel_rfl
 ·kernel_rfl
 ·rfl
 ·decide
theorem fn87 : Is87 Tryz.prog sF sT := by
 refine ⟨⟨Tryz.prog.funcs[sF 87]?.getD default, (Tryz.prog.funcs[sF 87]?.getD default).body.getD .skip, fun d => if d = 1000042 then 4 else if d = 1000067 then 4 else if d = 1000068 then 4 else 0, ?_, ?_, ?_, ?_, ?_⟩, ?_, ?_⟩
 ·kernel_rfl
 ·kernel_rfl
 ·kernel_rfl
 ·kernel_rfl
 ·kernel_rfl
 ·rfl
 ·decide
theorem fn88 : Is88 Tryz.prog sF sT := by
 refine ⟨⟨Tryz.prog.funcs[sF 88]?.getD default, (Tryz.prog.funcs[sF 88]?.getD default).body.getD .skip, fun d => if d = 1000042 then 4 else 0, ?_, ?_, ?_, ?_, ?_⟩, ?_, ?_⟩
 ·kernel_rfl
 ·kernel_rfl
 ·kernel_rfl
 ·kernel_rfl
 ·kernel_rfl
 ·rfl
 ·decide
theorem fn89 : Is89 Tryz.prog sF sT := by
 refine ⟨⟨Tryz.prog.funcs[sF 89]?.getD default, (Tryz.prog.funcs[sF 89]?.getD default).body.getD .skip, fun d => if d = 1000064 then 4 else 0, ?_, ?_, ?_, ?_, ?_⟩, ?_, ?_⟩
 ·kernel_rfl
 ·kernel_rfl
 ·kernel_rfl
 ·kernel_rfl
 ·kernel_rfl
 ·rfl
 ·decide
theorem fn90 : Is90 Tryz.prog sF sT := by
 refine ⟨⟨Tryz.prog.funcs[sF 90]?.getD default, (Tryz.prog.funcs[sF 90]?.getD default).body.getD .skip, fun d => 0, ?_, ?_, ?_, ?_, ?_⟩, ?_, ?_⟩
 ·kernel_rfl
 ·kernel_rfl
 ·kernel_rfl
 ·kernel_rfl
 ·kernel_rfl
 ·rfl
 ·decide
theorem fn91 : Is91 Tryz.prog sF sT := by
 refine ⟨⟨Tryz.prog.funcs[sF 91]?.getD default, (Tryz.prog.funcs[sF 91]?.getD default).body.getD .skip, fun d => if d = 50 then 2 else if d = 1000041 then 4 else if d = 1000064 then 4 else if d = 1000068 then 4 else if d = 1000070 then 4 else if d = 1000102 then 4 else 0, ?_, ?_, ?_, ?_, ?_⟩, ?_, ?_⟩
 ·kernel_rfl
 ·kernel_rfl
 ·kernel_rfl
 ·kernel_rfl
 ·kernel_rfl
 ·rfl
 ·decide
theorem fn92 : Is92 Tryz.prog sF sT := by
 refine ⟨⟨Tryz.prog.funcs[sF 92]?.getD default, (Tryz.prog.funcs[sF 92]?.getD default).body.getD .skip, fun d => if d = 1000068 then 4 else if d = 1000070 then 4 else if d = 1000071 then 4 else 0, ?_, ?_, ?_, ?_, ?_⟩, ?_, ?_⟩
 ·kernel_rfl
 ·kernel_rfl
 ·kernel_rfl
 ·kernel_rfl
 ·kernel_rfl
 ·rfl
 ·decide
theorem fn93 : Is93 Tryz.prog sF sT := by
 refine ⟨⟨Tryz.prog.funcs[sF 93]?.getD default, (Tryz.prog.funcs[sF 93]?.getD default).body.getD .skip, fun d => if d = 1000028 then 4 else if d = 1000027 then 4 else if d = 1000046 then 4 else if d = 1000077 then 4 else 0, ?_, ?_, ?_, ?_, ?_⟩, ?_, ?_⟩
 ·kernel_rfl
 ·kernel_rfl
 ·kernel_rfl
 ·kernel_rfl
 ·kernel_rfl
 ·rfl
 ·decide
theorem fn97 : Is97 Tryz.prog sF sT := by
 refine ⟨⟨Tryz.prog.funcs[sF 97]?.getD default, (Tryz.prog.funcs[sF 97]?.getD default).body.getD .skip, fun d => 0, ?_, ?_, ?_, ?_, ?_⟩, ?_, ?_⟩
 ·kernel_rfl
 ·kernel_rfl
 ·kernel_rfl
 ·kernel_rfl
 ·kernel_rfl
 ·rfl
 ·decide
theorem fn98 : Is98 Tryz.prog sF sT := by
 refine ⟨⟨Tryz.prog.funcs[sF 98]?.getD default, (Tryz.prog.funcs[sF 98]?.getD default).body.getD .skip, fun d => 0, ?_, ?_, ?_, ?_, ?_⟩, ?_, ?_⟩
 ·kernel_rfl
 ·kernel_rfl
 ·kernel_rfl
 ·kernel_rfl
 ·kernel_rfl
 ·rfl
 ·decide
theorem fn101 : Is101 Tryz.prog sF sT := by
 refine ⟨⟨Tryz.prog.funcs[sF 101]?.getD default, (Tryz.prog.funcs[sF 101]?.getD default).body.getD .skip, fun d => 0, ?_, ?_, ?_, ?_, ?_⟩, ?_, ?_⟩
 ·kernel_rfl
 ·kernel_rfl
 ·kernel_rfl
 ·kernel_rfl
 ·kernel_rfl
 ·rfl
 ·decide
theorem fn102 : Is102 Tryz.prog sF sT := by
 refine ⟨⟨Tryz.prog.funcs[sF 102]?.getD default, (Tryz.prog.funcs[sF 102]?.getD default).body.getD .skip, fun d => 0, ?_, ?_, ?_, ?_, ?_⟩, ?_, ?_⟩
 ·kernel_rfl
 ·kernel_rfl
 ·kernel_rfl
 ·kernel_rfl
 ·kernel_rfl
 ·rfl
 ·decide
theorem fn103 : Is103 Tryz.prog sF sT := by
 refine ⟨⟨Tryz.prog.funcs[sF 103]?.getD default, (Tryz.prog.funcs[sF 103]?.getD default).body.getD .skip, fun d => 0, ?_, ?_, ?_, ?_, ?_⟩, ?_, ?_⟩
 ·kernel_rfl
 ·kernel_rfl
 ·kernel_rfl
 ·kernel_rfl
 ·kernel_rfl
 ·rfl
 ·decide
theorem fn104 : Is104 Tryz.prog sF sT := by
 refine ⟨⟨Tryz.prog.funcs[sF 104]?.getD default, (Tryz.prog.funcs[sF 104]?.getD default).body.getD .skip, fun d => 0, ?_, ?_, ?_, ?_, ?_⟩, ?_, ?_⟩
 ·kernel_rfl
 ·kernel_rfl
 ·kernel_rfl
 ·kernel_rfl
 ·kernel_rfl
 ·rfl
 ·decide
theorem fn105 : Is105 Tryz.prog sF sT := by
 refine ⟨⟨Tryz.prog.funcs[sF 105]?.getD default, (Tryz.prog.funcs[sF 105]?.getD default).body.getD .skip, fun d => 0, ?_, ?_, ?_, ?_, ?_⟩, ?_, ?_⟩
 ·kernel_rfl
 ·kernel_rfl
 ·kernel_rfl
 ·kernel_rfl
 ·kernel_rfl
 ·rfl
 ·decide
theorem fn106 : Is106 Tryz.prog sF sT := by
 refine ⟨⟨Tryz.prog.funcs[sF 106]?.getD default, (Tryz.prog.funcs[sF 106]?.getD default).body.getD .skip, fun d => 0, ?_, ?_, ?_, ?_, ?_⟩, ?_, ?_⟩
 ·kernel_rfl
 ·kernel_rfl
 ·kernel_rfl
 ·kernel_rfl
 ·kernel_rfl
 ·rfl
 ·decide
theorem fn107 : Is107 Tryz.prog sF sT := by
 refine ⟨⟨Tryz.prog.funcs[sF 107]?.getD default, (Tryz.prog.funcs[sF 107]?.getD default).body.getD .skip, fun d => 0, ?_, ?_, ?_, ?_, ?_⟩, ?_, ?_⟩
 ·kernel_rfl
 ·kernel_rfl
 ·kernel_rfl
 ·kernel_rfl
 ·kernel_rfl
 ·rfl
 ·decide
theorem fn108 : Is108 Tryz.prog sF sT := by
 refine ⟨⟨Tryz.prog.funcs[sF 108]?.getD default, (Tryz.prog.funcs[sF 108]?.getD default).body.getD .skip, fun d => 0, ?_, ?_, ?_, ?_, ?_⟩, ?_, ?_⟩
 ·kernel_rfl
 ·kernel_rfl
 ·kernel_rfl
 ·kernel_rfl
 ·kernel_rfl
 ·rfl
 ·decide
theorem fn109 : Is109 Tryz.prog sF sT := by
 refine ⟨⟨Tryz.prog.funcs[sF 109]?.getD default, (Tryz.prog.funcs[sF 109]?.getD default).body.getD .skip, fun d => 0, ?_, ?_, ?_, ?_, ?_⟩, ?_, ?_⟩
 ·kernel_rfl
 ·kernel_rfl
 ·kernel_rfl
 ·kernel_rfl
 ·kernel_rfl
 ·rfl
 ·decide
theorem fn110 : Is110 Tryz.prog sF sT := by
 refine ⟨⟨Tryz.prog.funcs[sF 110]?.getD default, (Tryz.prog.funcs[sF 110]?.getD default).body.getD .skip, fun d => 0, ?_, ?_, ?_, ?_, ?_⟩, ?_, ?_⟩
 ·kernel_rfl
 ·kernel_rfl
 ·kernel_rfl
 ·kernel_rfl
 ·kernel_rfl
 ·rfl
 ·decide
theorem fn111 : Is111 Tryz.prog sF sT := by
 refine ⟨⟨Tryz.prog.funcs[sF 111]?.getD default, (Tryz.prog.funcs[sF 111]?.getD default).body.getD .skip, fun d => 0, ?_, ?_, ?_, ?_, ?_⟩, ?_, ?_⟩
 ·kernel_rfl
 ·kernel_rfl
 ·kernel_rfl
 ·kernel_rfl
 ·kernel_rfl
 ·rfl
 ·decide
theorem fn112 : Is112 Tryz.prog sF sT := by
 refine ⟨⟨Tryz.prog.funcs[sF 112]?.getD default, (Tryz.prog.funcs[sF 112]?.getD default).body.getD .skip, fun d => if d = 1000027 then 4 else 0, ?_, ?_, ?_, ?_, ?_⟩, ?_, ?_⟩
 ·kernel_rfl
 ·kernel_rfl
 ·kernel_rfl
 ·kernel_rfl
 ·kernel_rfl
 ·rfl
 ·decide
theorem fn116 : Is116 Tryz.prog sF sT := by
 refine ⟨⟨Tryz.prog.funcs[sF 116]?.getD default, (Tryz.prog.funcs[sF 116]?.getD default).body.getD .skip, fun d => 0, ?_, ?_, ?_, ?_, ?_⟩, ?_, ?_⟩
 ·kernel_rfl
 ·kernel_rfl
 ·kernel_rfl
 ·kernel_rfl
 ·kernel_rfl
 ·rfl
 ·decide
theorem fn124 : Is124 Tryz.prog sF sT := by
 refine ⟨⟨Tryz.prog.funcs[sF 124]?.getD default, (Tryz.prog.funcs[sF 124]?.getD default).body.getD .skip, fun d => 0, ?_, ?_, ?_, ?_, ?_⟩, ?_, ?_⟩
 ·kernel_rfl
 ·kernel_rfl
 ·kernel_rfl
 ·kernel_rfl
 ·kernel_rfl
 ·rfl
 ·decide
theorem fn125 : Is125 Tryz.prog sF sT := by
 refine ⟨⟨Tryz.prog.funcs[sF 125]?.getD default, (Tryz.prog.funcs[sF 125]?.getD default).body.getD .skip, fun d => 0, ?_, ?_, ?_, ?_, ?_⟩, ?_, ?_⟩
 ·kernel_rfl
 ·kernel_rfl
 ·kernel_rfl
 ·kernel_rfl
 ·kernel_rfl
 ·rfl
 ·decide
theorem fn126 : Is126 Tryz.prog sF sT := by
 refine ⟨⟨Tryz.prog.funcs[sF 126]?.getD default, (Tryz.prog.funcs[sF 126]?.getD default).body.getD .skip, fun d => 0, ?_, ?_, ?_, ?_, ?_⟩, ?_, ?_⟩
 ·kernel_rfl
 ·kernel_rfl
 ·kernel_rfl
 ·kernel_rfl
 ·kernel_rfl
 ·rfl
 ·decide
theorem fn131 : Is131 Tryz.prog sF sT := by
 refine ⟨⟨Tryz.prog.funcs[sF 131]?.getD default, (Tryz.prog.funcs[sF 131]?.getD default).body.getD .skip, fun d => 0, ?_, ?_, ?_, ?_, ?_⟩, ?_, ?_⟩
 ·kernel_rfl
 ·kernel_rfl
 ·kernel_rfl
 ·kernel_rfl
 ·kernel_rfl
 ·rfl
 ·decide
theorem fn132 : Is132 Tryz.prog sF sT := by
 refine ⟨⟨Tryz.prog.funcs[sF 132]?.getD default, (Tryz.prog.funcs[sF 132]?.getD default).body.getD .skip, fun d => 0, ?_, ?_, ?_, ?_, ?_⟩, ?_, ?_⟩
 ·kernel_rfl
 ·kernel_rfl
 ·kernel_rfl
 ·kernel_rfl
 ·kernel_rfl
 ·rfl
 ·decide
theorem fn134 : Is134 Tryz.prog sF sT := by
 refine ⟨⟨Tryz.prog.funcs[sF 134]?.getD default, (Tryz.prog.funcs[sF 134]?.getD default).body.getD .skip, fun d => 0, ?_, ?_, ?_, ?_, ?_⟩, ?_, ?_⟩
 ·kernel_rfl
 ·kernel_rfl
 ·kernel_rfl
 ·kernel_rfl
 ·kernel_rfl
 ·rfl
 ·decide
theorem fn136 : Is136 Tryz.prog sF sT := by
 refine ⟨⟨Tryz.prog.funcs[sF 136]?.getD default, (Tryz.prog.funcs[sF 136]?.getD default).body.getD .skip, fun d => 0, ?_, ?_, ?_, ?_, ?_⟩, ?_, ?_⟩
 ·kernel_rfl
 ·kernel_rfl
 ·kernel_rfl
 ·kernel_rfl
 ·kernel_rfl
 ·rfl
 ·decide
theorem fn137 : Is137 Tryz.prog sF sT := by
 refine ⟨⟨Tryz.prog.funcs[sF 137]?.getD default, (Tryz.prog.funcs[sF 137]?.getD default).body.getD .skip, fun d => 0, ?_, ?_, ?_, ?_, ?_⟩, ?_, ?_⟩
 ·kernel_rfl
 ·kernel_rfl
 ·kernel_rfl
 ·kernel_rfl
 ·kernel_rfl
 ·rfl
 ·decide
theorem fn138 : Is138 Tryz.prog sF sT := by
 refine ⟨⟨Tryz.prog.funcs[sF 138]?.getD default, (Tryz.prog.funcs[sF 138]?.getD default).body.getD .skip, fun d => 0, ?_, ?_, ?_, ?_, ?_⟩, ?_, ?_⟩
 ·kernel_rfl
 ·kernel_rfl
 ·kernel_rfl
 ·kernel_rfl
 ·kernel_rfl
 ·rfl
 ·decide
theorem fn139 : Is139 Tryz.prog sF sT := by
 refine ⟨⟨Tryz.prog.funcs[sF 139]?.getD default, (Tryz.prog.funcs[sF 139]?.getD default).body.getD .skip, fun d => 0, ?_, ?_, ?_, ?_, ?_⟩, ?_, ?_⟩
 ·kernel_rfl
 ·kernel_rfl
 ·kernel_rfl
 ·kernel_rfl
 ·kernel_rfl
 ·rfl
 ·decide
theorem fn141 : Is141 Tryz.prog sF sT := by
 refine ⟨⟨Tryz.prog.funcs[sF 141]?.getD default, (Tryz.prog.funcs[sF 141]?.getD default).body.getD .skip, fun d => 0, ?_, ?_, ?_, ?_, ?_⟩, ?_, ?_⟩
 ·kernel_rfl
 ·kernel_rfl
 ·kernel_rfl
 ·kernel_rfl
 ·kernel_rfl
 ·rfl
 ·decide
theorem fn158 : Is158 Tryz.prog sF sT := by
 refine ⟨⟨Tryz.prog.funcs[sF 158]?.getD default, (Tryz.prog.funcs[sF 158]?.getD default).body.getD .skip, fun d => 0, ?_, ?_, ?_, ?_, ?_⟩, ?_, ?_⟩
 ·kernel_rfl
 ·kernel_rfl
 ·kernel_rfl
 ·kernel_rfl
 ·kernel_rfl
 ·rfl
 ·decide
theorem fn159 : Is159 Tryz.prog sF sT := by
 refine ⟨⟨Tryz.prog.funcs[sF 159]?.getD default, (Tryz.prog.funcs[sF 159]?.getD default).body.getD .skip, fun d => 0, ?_, ?_, ?_, ?_, ?_⟩, ?_, ?_⟩
 ·kernel_rfl
 ·kernel_rfl
 ·kernel_rfl
 ·kernel_rfl
 ·kernel_rfl
 ·rfl
 ·decide
theorem fn160 : Is160 Tryz.prog sF sT := by
 refine ⟨⟨Tryz.prog.funcs[sF 160]?.getD default, (Tryz.prog.funcs[sF 160]?.getD default).body.getD .skip, fun d => if d = 1000012 then 4 else if d = 1000011 then 4 else 0, ?_, ?_, ?_, ?_, ?_⟩, ?_, ?_⟩
 ·kernel_rfl
 ·kernel_rfl
 ·kernel_rfl
 ·kernel_rfl
 ·kernel_rfl
 ·rfl
 ·decide
theorem fn161 : Is161 Tryz.prog sF sT := by
 refine ⟨⟨Tryz.prog.funcs[sF 161]?.getD default, (Tryz.prog.funcs[sF 161]?.getD default).body.getD .skip, fun d => 0, ?_, ?_, ?_, ?_, ?_⟩, ?_, ?_⟩
 ·kernel_rfl
 ·kernel_rfl
 ·kernel_rfl
 ·kernel_rfl
 ·kernel_rfl
 ·rfl
 ·decide
theorem fn162 : Is162 Tryz.prog sF sT := by
 refine ⟨⟨Tryz.prog.funcs[sF 162]?.getD default, (Tryz.prog.funcs[sF 162]?.getD default).body.getD .skip, fun d => 0, ?_, ?_, ?_, ?_, ?_⟩, ?_, ?_⟩
 ·kernel_rfl
 ·kernel_rfl
 ·kernel_rfl
 ·kernel_rfl
 ·kernel_rfl
 ·rfl
 ·decide
theorem fn163 : Is163 Tryz.prog sF sT := by
 refine ⟨⟨Tryz.prog.funcs[sF 163]?.getD default, (Tryz.prog.funcs[sF 163]?.getD default).body.getD .skip, fun d => 0, ?_, ?_, ?_, ?_, ?_⟩, ?_, ?_⟩
 ·kernel_rfl
 ·kernel_rfl
 ·kernel_rfl
 ·kernel_rfl
 ·kernel_rfl
 ·rfl
 ·decide
theorem fn164 : Is164 Tryz.prog sF sT := by
 refine ⟨⟨Tryz.prog.funcs[sF 164]?.getD default, (Tryz.prog.funcs[sF 164]?.getD default).body.getD .skip, fun d => 0, ?_, ?_, ?_, ?_, ?_⟩, ?_, ?_⟩
 ·kernel_rfl
 ·kernel_rfl
 ·kernel_rfl
 ·kernel_rfl
 ·kernel_rfl
 ·rfl
 ·decide
theorem fn165 : Is165 Tryz.prog sF sT := by
 refine ⟨⟨Tryz.prog.funcs[sF 165]?.getD default, (Tryz.prog.funcs[sF 165]?.getD default).body.getD .skip, fun d => 0, ?_, ?_, ?_, ?_, ?_⟩, ?_, ?_⟩
 ·kernel_rfl
 ·kernel_rfl
 ·kernel_rfl
 ·kernel_rfl
 ·kernel_rfl
 ·rfl
 ·decide
theorem fn166 : Is166 Tryz.prog sF sT := by
 refine ⟨⟨Tryz.prog.funcs[sF 166]?.getD default, (Tryz.prog.funcs[sF 166]?.getD default).body.getD .skip, fun d => if d = 1000012 then 4 else if d = 1000011 then 4 else 0, ?_, ?_, ?_, ?_, ?_⟩, ?_, ?_⟩
 ·kernel_rfl
 ·kernel_rfl
 ·kernel_rfl
 ·kernel_rfl
 ·kernel_rfl
 ·rfl
 ·decide
theorem fn167 : Is167 Tryz.prog sF sT := by
 refine ⟨⟨Tryz.prog.funcs[sF 167]?.getD default, (Tryz.prog.funcs[sF 167]?.getD default).body.getD .skip, fun d => 0, ?_, ?_, ?_, ?_, ?_⟩, ?_, ?_⟩
 ·kernel_rfl
 ·kernel_rfl
 ·kernel_rfl
 ·kernel_rfl
 ·kernel_rfl
 ·rfl
 ·decide
theorem fn168 : Is168 Tryz.prog sF sT := by
 refine ⟨⟨Tryz.prog.funcs[sF 168]?.getD default, (Tryz.prog.funcs[sF 168]?.getD default).body.getD .skip, fun d => 0, ?_, ?_, ?_, ?_, ?_⟩, ?_, ?_⟩
 ·kernel_rfl
 ·kernel_rfl
 ·kernel_rfl
 ·kernel_rfl
 ·kernel_rfl
 ·rfl
 ·decide
theorem fn169 : Is169 Tryz.prog sF sT := by
 refine ⟨⟨Tryz.prog.funcs[sF 169]?.getD default, (Tryz.prog.funcs[sF 169]?.getD default).body.getD .skip, fun d => 0, ?_, ?_, ?_, ?_, ?_⟩, ?_, ?_⟩
 ·kernel_rfl
 ·kernel_rfl
 ·kernel_rfl
 ·kernel_rfl
 ·kernel_rfl
 ·rfl
 ·decide
theorem fn170 : Is170 Tryz.prog sF sT := by
 refine ⟨⟨Tryz.prog.funcs[sF 170]?.getD default, (Tryz.prog.funcs[sF 170]?.getD default).body.getD .skip, fun d => 0, ?_, ?_, ?_, ?_, ?_⟩, ?_, ?_⟩
 ·kernel_rfl
 ·kernel_rfl
 ·kernel_rfl
 ·kernel_rfl
 ·kernel_rfl
 ·rfl
 ·decide
end Go.Ab
