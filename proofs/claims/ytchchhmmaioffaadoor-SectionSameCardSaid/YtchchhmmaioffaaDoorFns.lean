/- The functions of this seat, by program. No condition. -/
import Derived.Test.YtchchhmmaioffaaDoorProg
import Derived.Test.YtchchhmmaioffaaDoorAbE5
import Derived.Test.YtchchhmmaioffaaDoorAbP1
import Derived.Test.YtchchhmmaioffaaDoorAbP3
import Derived.Test.YtchchhmmaioffaaDoorAbR7

import Derived.Test.YtchchhmmaioffaaDoorAbZ1
namespace Go.Ab
open Go.Proofs
set_option maxRecDepth 100000
def sF (k : Nat) : Nat := [0, 0, 39, 0, 0, 0, 0, 0, 0, 0, 0, 0, 0, 0, 0, 0, 0, 0, 0, 0, 0, 0, 64, 28, 0, 0, 0, 26, 0, 89, 46, 97, 98, 101, 0, 0, 38, 0, 0, 14, 15, 0, 9, 0, 0, 0, 33, 32, 0, 0, 0, 0, 0, 0, 19, 0, 60, 61, 62, 63, 0, 0, 0, 34, 99, 0, 37, 75, 76, 77, 78, 79, 80, 81, 82, 83, 84, 85, 86, 87, 88, 0, 0, 0, 0, 0, 0, 0, 0, 0, 0, 0, 0, 55, 23, 43, 44, 24, 45, 27, 102, 0, 0, 0, 92, 93, 94, 95, 96, 0, 0, 0, 71, 58, 50, 59, 100, 73, 103, 104, 21, 40, 72, 3, 8, 10, 11, 4, 12, 13, 5, 16, 17, 6, 18, 7, 20, 22, 29, 30, 31, 35, 36, 41, 42, 49, 48, 52, 51, 54, 53, 56, 68, 69, 70, 90, 57, 91, 0, 0, 0, 0, 0, 0, 0, 0, 0, 0, 0, 0, 0].getD k 0
def sT (k : Nat) : Nat := [82, 133, 60, 5, 77, 107, 105, 110, 112, 0, 71, 0, 93, 138, 30, 4].getD k 0
theorem fn2 : Is2 Tryd.prog sF sT := by
  refine ⟨⟨Tryd.prog.funcs[sF 2]?.getD default, (Tryd.prog.funcs[sF 2]?.getD default).body.getD .skip, fun d => if d = 1000028 then 4 else if d = 1000064 then 4 else 0, ?_, ?_, ?_, ?_, ?_⟩, ?_, ?_⟩
  · kernel_rfl
  · kernel_rfl
  · kernel_rfl
  · kernel_rfl
  · kernel_rfl
  · rfl
  · decide
theorem fn22 : Is22 Tryd.prog sF sT := by
  refine ⟨⟨Tryd.prog.funcs[sF 22]?.getD default, (Tryd.prog.funcs[sF 22]?.getD default).body.getD .skip, fun d => if d = 1000089 then 4 else 0, ?_, ?_, ?_, ?_, ?_⟩, ?_, ?_⟩
  · kernel_rfl
  · kernel_rfl
  · kernel_rfl
  · kernel_rfl
  · kernel_rfl
  · rfl
  · decide
theorem fn23 : Is23 Tryd.prog sF sT := by
  refine ⟨⟨Tryd.prog.funcs[sF 23]?.getD default, (Tryd.prog.funcs[sF 23]?.getD default).body.getD .skip, fun d => 0, ?_, ?_, ?_, ?_, ?_⟩, ?_, ?_⟩
  · kernel_rfl
  · kernel_rfl
  · kernel_rfl
  · kernel_rfl
  · kernel_rfl
  · rfl
  · decide
theorem fn27 : Is27 Tryd.prog sF sT := by
  refine ⟨⟨Tryd.prog.funcs[sF 27]?.getD default, (Tryd.prog.funcs[sF 27]?.getD default).body.getD .skip, fun d => if d = 1000046 then 4 else 0, ?_, ?_, ?_, ?_, ?_⟩, ?_, ?_⟩
  · kernel_rfl
  · kernel_rfl
  · kernel_rfl
  · kernel_rfl
  · kernel_rfl
  · rfl
  · decide
theorem fn29 : Is29 Tryd.prog sF sT := by
  refine ⟨⟨Tryd.prog.funcs[sF 29]?.getD default, (Tryd.prog.funcs[sF 29]?.getD default).body.getD .skip, fun d => if d = 1000026 then 4 else if d = 1000064 then 4 else if d = 1000097 then 4 else 0, ?_, ?_, ?_, ?_, ?_⟩, ?_, ?_⟩
  · kernel_rfl
  · kernel_rfl
  · kernel_rfl
  · kernel_rfl
  · kernel_rfl
  · rfl
  · decide
theorem fn30 : Is30 Tryd.prog sF sT := by
  refine ⟨⟨Tryd.prog.funcs[sF 30]?.getD default, (Tryd.prog.funcs[sF 30]?.getD default).body.getD .skip, fun d => 0, ?_, ?_, ?_, ?_, ?_⟩, ?_, ?_⟩
  · kernel_rfl
  · kernel_rfl
  · kernel_rfl
  · kernel_rfl
  · kernel_rfl
  · rfl
  · decide
theorem fn31 : Is31 Tryd.prog sF sT := by
  refine ⟨⟨Tryd.prog.funcs[sF 31]?.getD default, (Tryd.prog.funcs[sF 31]?.getD default).body.getD .skip, fun d => if d = 1000026 then 4 else if d = 1000101 then 4 else if d = 1000064 then 4 else 0, ?_, ?_, ?_, ?_, ?_⟩, ?_, ?_⟩
  · kernel_rfl
  · kernel_rfl
  · kernel_rfl
  · kernel_rfl
  · kernel_rfl
  · rfl
  · decide
theorem fn32 : Is32 Tryd.prog sF sT := by
  refine ⟨⟨Tryd.prog.funcs[sF 32]?.getD default, (Tryd.prog.funcs[sF 32]?.getD default).body.getD .skip, fun d => 0, ?_, ?_, ?_, ?_, ?_⟩, ?_, ?_⟩
  · kernel_rfl
  · kernel_rfl
  · kernel_rfl
  · kernel_rfl
  · kernel_rfl
  · rfl
  · decide
theorem fn33 : Is33 Tryd.prog sF sT := by
  refine ⟨⟨Tryd.prog.funcs[sF 33]?.getD default, (Tryd.prog.funcs[sF 33]?.getD default).body.getD .skip, fun d => if d = 1000046 then 4 else 0, ?_, ?_, ?_, ?_, ?_⟩, ?_, ?_⟩
  · kernel_rfl
  · kernel_rfl
  · kernel_rfl
  · kernel_rfl
  · kernel_rfl
  · rfl
  · decide
theorem fn36 : Is36 Tryd.prog sF sT := by
  refine ⟨⟨Tryd.prog.funcs[sF 36]?.getD default, (Tryd.prog.funcs[sF 36]?.getD default).body.getD .skip, fun d => if d = 19 then 1 else if d = 1000061 then 4 else if d = 1000062 then 4 else if d = 1000063 then 4 else 0, ?_, ?_, ?_, ?_, ?_⟩, ?_, ?_⟩
  · kernel_rfl
  · kernel_rfl
  · kernel_rfl
  · kernel_rfl
  · kernel_rfl
  · rfl
  · decide
theorem fn39 : Is39 Tryd.prog sF sT := by
  refine ⟨⟨Tryd.prog.funcs[sF 39]?.getD default, (Tryd.prog.funcs[sF 39]?.getD default).body.getD .skip, fun d => 0, ?_, ?_, ?_, ?_, ?_⟩, ?_, ?_⟩
  · kernel_rfl
  · kernel_rfl
  · kernel_rfl
  · kernel_rfl
  · kernel_rfl
  · rfl
  · decide
theorem fn40 : Is40 Tryd.prog sF sT := by
  refine ⟨⟨Tryd.prog.funcs[sF 40]?.getD default, (Tryd.prog.funcs[sF 40]?.getD default).body.getD .skip, fun d => if d = 1000033 then 4 else if d = 1000032 then 4 else if d = 1000034 then 4 else 0, ?_, ?_, ?_, ?_, ?_⟩, ?_, ?_⟩
  · kernel_rfl
  · kernel_rfl
  · kernel_rfl
  · kernel_rfl
  · kernel_rfl
  · rfl
  · decide
theorem fn46 : Is46 Tryd.prog sF sT := by
  refine ⟨⟨Tryd.prog.funcs[sF 46]?.getD default, (Tryd.prog.funcs[sF 46]?.getD default).body.getD .skip, fun d => 0, ?_, ?_, ?_, ?_, ?_⟩, ?_, ?_⟩
  · kernel_rfl
  · kernel_rfl
  · kernel_rfl
  · kernel_rfl
  · kernel_rfl
  · rfl
  · decide
theorem fn47 : Is47 Tryd.prog sF sT := by
  refine ⟨⟨Tryd.prog.funcs[sF 47]?.getD default, (Tryd.prog.funcs[sF 47]?.getD default).body.getD .skip, fun d => if d = 1000033 then 4 else 0, ?_, ?_, ?_, ?_, ?_⟩, ?_, ?_⟩
  · kernel_rfl
  · kernel_rfl
  · kernel_rfl
  · kernel_rfl
  · kernel_rfl
  · rfl
  · decide
theorem fn56 : Is56 Tryd.prog sF sT := by
  refine ⟨⟨Tryd.prog.funcs[sF 56]?.getD default, (Tryd.prog.funcs[sF 56]?.getD default).body.getD .skip, fun d => 0, ?_, ?_, ?_, ?_, ?_⟩, ?_, ?_⟩
  · kernel_rfl
  · kernel_rfl
  · kernel_rfl
  · kernel_rfl
  · kernel_rfl
  · rfl
  · decide
theorem fn57 : Is57 Tryd.prog sF sT := by
  refine ⟨⟨Tryd.prog.funcs[sF 57]?.getD default, (Tryd.prog.funcs[sF 57]?.getD default).body.getD .skip, fun d => if d = 1000077 then 4 else if d = 1000078 then 4 else if d = 1000079 then 4 else if d = 1000081 then 4 else if d = 1000082 then 4 else if d = 1000083 then 4 else if d = 1000084 then 4 else if d = 1000085 then 4 else 0, ?_, ?_, ?_, ?_, ?_⟩, ?_, ?_⟩
  · kernel_rfl
  · kernel_rfl
  · kernel_rfl
  · kernel_rfl
  · kernel_rfl
  · rfl
  · decide
theorem fn58 : Is58 Tryd.prog sF sT := by
  refine ⟨⟨Tryd.prog.funcs[sF 58]?.getD default, (Tryd.prog.funcs[sF 58]?.getD default).body.getD .skip, fun d => if d = 1000077 then 4 else if d = 1000086 then 4 else if d = 1000088 then 4 else 0, ?_, ?_, ?_, ?_, ?_⟩, ?_, ?_⟩
  · kernel_rfl
  · kernel_rfl
  · kernel_rfl
  · kernel_rfl
  · kernel_rfl
  · rfl
  · decide
theorem fn59 : Is59 Tryd.prog sF sT := by
  refine ⟨⟨Tryd.prog.funcs[sF 59]?.getD default, (Tryd.prog.funcs[sF 59]?.getD default).body.getD .skip, fun d => 0, ?_, ?_, ?_, ?_, ?_⟩, ?_, ?_⟩
  · kernel_rfl
  · kernel_rfl
  · kernel_rfl
  · kernel_rfl
  · kernel_rfl
  · rfl
  · decide
theorem fn63 : Is63 Tryd.prog sF sT := by
  refine ⟨⟨Tryd.prog.funcs[sF 63]?.getD default, (Tryd.prog.funcs[sF 63]?.getD default).body.getD .skip, fun d => if d = 1000033 then 4 else if d = 1000032 then 4 else if d = 1000055 then 4 else 0, ?_, ?_, ?_, ?_, ?_⟩, ?_, ?_⟩
  · kernel_rfl
  · kernel_rfl
  · kernel_rfl
  · kernel_rfl
  · kernel_rfl
  · rfl
  · decide
theorem fn67 : Is67 Tryd.prog sF sT := by
  refine ⟨⟨Tryd.prog.funcs[sF 67]?.getD default, (Tryd.prog.funcs[sF 67]?.getD default).body.getD .skip, fun d => 0, ?_, ?_, ?_, ?_, ?_⟩, ?_, ?_⟩
  · kernel_rfl
  · kernel_rfl
  · kernel_rfl
  · kernel_rfl
  · kernel_rfl
  · rfl
  · decide
theorem fn68 : Is68 Tryd.prog sF sT := by
  refine ⟨⟨Tryd.prog.funcs[sF 68]?.getD default, (Tryd.prog.funcs[sF 68]?.getD default).body.getD .skip, fun d => 0, ?_, ?_, ?_, ?_, ?_⟩, ?_, ?_⟩
  · kernel_rfl
  · kernel_rfl
  · kernel_rfl
  · kernel_rfl
  · kernel_rfl
  · rfl
  · decide
theorem fn69 : Is69 Tryd.prog sF sT := by
  refine ⟨⟨Tryd.prog.funcs[sF 69]?.getD default, (Tryd.prog.funcs[sF 69]?.getD default).body.getD .skip, fun d => if d = 2000048 then 5 else if d = 2000049 then 6 else if d = 1000063 then 4 else if d = 1000094 then 4 else 0, ?_, ?_, ?_, ?_, ?_⟩, ?_, ?_⟩
  · kernel_rfl
  · kernel_rfl
  · kernel_rfl
  · kernel_rfl
  · kernel_rfl
  · rfl
  · decide
theorem fn70 : Is70 Tryd.prog sF sT := by
  refine ⟨⟨Tryd.prog.funcs[sF 70]?.getD default, (Tryd.prog.funcs[sF 70]?.getD default).body.getD .skip, fun d => if d = 11 then 2 else if d = 2000015 then 5 else if d = 2000016 then 6 else if d = 1000063 then 4 else if d = 1000094 then 4 else 0, ?_, ?_, ?_, ?_, ?_⟩, ?_, ?_⟩
  · kernel_rfl
  · kernel_rfl
  · kernel_rfl
  · kernel_rfl
  · kernel_rfl
  · rfl
  · decide
theorem fn71 : Is71 Tryd.prog sF sT := by
  refine ⟨⟨Tryd.prog.funcs[sF 71]?.getD default, (Tryd.prog.funcs[sF 71]?.getD default).body.getD .skip, fun d => if d = 1000077 then 4 else 0, ?_, ?_, ?_, ?_, ?_⟩, ?_, ?_⟩
  · kernel_rfl
  · kernel_rfl
  · kernel_rfl
  · kernel_rfl
  · kernel_rfl
  · rfl
  · decide
theorem fn72 : Is72 Tryd.prog sF sT := by
  refine ⟨⟨Tryd.prog.funcs[sF 72]?.getD default, (Tryd.prog.funcs[sF 72]?.getD default).body.getD .skip, fun d => 0, ?_, ?_, ?_, ?_, ?_⟩, ?_, ?_⟩
  · kernel_rfl
  · kernel_rfl
  · kernel_rfl
  · kernel_rfl
  · kernel_rfl
  · rfl
  · decide
theorem fn73 : Is73 Tryd.prog sF sT := by
  refine ⟨⟨Tryd.prog.funcs[sF 73]?.getD default, (Tryd.prog.funcs[sF 73]?.getD default).body.getD .skip, fun d => if d = 1000063 then 4 else if d = 1000077 then 4 else 0, ?_, ?_, ?_, ?_, ?_⟩, ?_, ?_⟩
  · kernel_rfl
  · kernel_rfl
  · kernel_rfl
  · kernel_rfl
  · kernel_rfl
  · rfl
  · decide
theorem fn74 : Is74 Tryd.prog sF sT := by
  refine ⟨⟨Tryd.prog.funcs[sF 74]?.getD default, (Tryd.prog.funcs[sF 74]?.getD default).body.getD .skip, fun d => if d = 1000063 then 4 else if d = 1000077 then 4 else 0, ?_, ?_, ?_, ?_, ?_⟩, ?_, ?_⟩
  · kernel_rfl
  · kernel_rfl
  · kernel_rfl
  · kernel_rfl
  · kernel_rfl
  · rfl
  · decide
theorem fn75 : Is75 Tryd.prog sF sT := by
  refine ⟨⟨Tryd.prog.funcs[sF 75]?.getD default, (Tryd.prog.funcs[sF 75]?.getD default).body.getD .skip, fun d => if d = 1000063 then 4 else if d = 1000077 then 4 else if d = 1000086 then 4 else if d = 1000088 then 4 else 0, ?_, ?_, ?_, ?_, ?_⟩, ?_, ?_⟩
  · kernel_rfl
  · kernel_rfl
  · kernel_rfl
  · kernel_rfl
  · kernel_rfl
  · rfl
  · decide
theorem fn76 : Is76 Tryd.prog sF sT := by
  refine ⟨⟨Tryd.prog.funcs[sF 76]?.getD default, (Tryd.prog.funcs[sF 76]?.getD default).body.getD .skip, fun d => if d = 1000062 then 4 else if d = 1000077 then 4 else if d = 1000078 then 4 else if d = 1000086 then 4 else 0, ?_, ?_, ?_, ?_, ?_⟩, ?_, ?_⟩
  · kernel_rfl
  · kernel_rfl
  · kernel_rfl
  · kernel_rfl
  · kernel_rfl
  · rfl
  · decide
theorem fn77 : Is77 Tryd.prog sF sT := by
  refine ⟨⟨Tryd.prog.funcs[sF 77]?.getD default, (Tryd.prog.funcs[sF 77]?.getD default).body.getD .skip, fun d => if d = 65 then 1 else if d = 1000062 then 4 else if d = 1000063 then 4 else if d = 1000077 then 4 else if d = 1000078 then 4 else if d = 1000086 then 4 else if d = 1000096 then 4 else 0, ?_, ?_, ?_, ?_, ?_⟩, ?_, ?_⟩
  · kernel_rfl
  · kernel_rfl
  · kernel_rfl
  · kernel_rfl
  · kernel_rfl
  · rfl
  · decide
theorem fn78 : Is78 Tryd.prog sF sT := by
  refine ⟨⟨Tryd.prog.funcs[sF 78]?.getD default, (Tryd.prog.funcs[sF 78]?.getD default).body.getD .skip, fun d => if d = 1000063 then 4 else 0, ?_, ?_, ?_, ?_, ?_⟩, ?_, ?_⟩
  · kernel_rfl
  · kernel_rfl
  · kernel_rfl
  · kernel_rfl
  · kernel_rfl
  · rfl
  · decide
theorem fn79 : Is79 Tryd.prog sF sT := by
  refine ⟨⟨Tryd.prog.funcs[sF 79]?.getD default, (Tryd.prog.funcs[sF 79]?.getD default).body.getD .skip, fun d => 0, ?_, ?_, ?_, ?_, ?_⟩, ?_, ?_⟩
  · kernel_rfl
  · kernel_rfl
  · kernel_rfl
  · kernel_rfl
  · kernel_rfl
  · rfl
  · decide
theorem fn80 : Is80 Tryd.prog sF sT := by
  refine ⟨⟨Tryd.prog.funcs[sF 80]?.getD default, (Tryd.prog.funcs[sF 80]?.getD default).body.getD .skip, fun d => if d = 1000077 then 4 else if d = 1000078 then 4 else 0, ?_, ?_, ?_, ?_, ?_⟩, ?_, ?_⟩
  · kernel_rfl
  · kernel_rfl
  · kernel_rfl
  · kernel_rfl
  · kernel_rfl
  · rfl
  · decide
theorem fn93 : Is93 Tryd.prog sF sT := by
  refine ⟨⟨Tryd.prog.funcs[sF 93]?.getD default, (Tryd.prog.funcs[sF 93]?.getD default).body.getD .skip, fun d => if d = 1000033 then 4 else if d = 1000032 then 4 else if d = 1000055 then 4 else if d = 1000071 then 4 else 0, ?_, ?_, ?_, ?_, ?_⟩, ?_, ?_⟩
  · kernel_rfl
  · kernel_rfl
  · kernel_rfl
  · kernel_rfl
  · kernel_rfl
  · rfl
  · decide
theorem fn97 : Is97 Tryd.prog sF sT := by
  refine ⟨⟨Tryd.prog.funcs[sF 97]?.getD default, (Tryd.prog.funcs[sF 97]?.getD default).body.getD .skip, fun d => 0, ?_, ?_, ?_, ?_, ?_⟩, ?_, ?_⟩
  · kernel_rfl
  · kernel_rfl
  · kernel_rfl
  · kernel_rfl
  · kernel_rfl
  · rfl
  · decide
theorem fn98 : Is98 Tryd.prog sF sT := by
  refine ⟨⟨Tryd.prog.funcs[sF 98]?.getD default, (Tryd.prog.funcs[sF 98]?.getD default).body.getD .skip, fun d => 0, ?_, ?_, ?_, ?_, ?_⟩, ?_, ?_⟩
  · kernel_rfl
  · kernel_rfl
  · kernel_rfl
  · kernel_rfl
  · kernel_rfl
  · rfl
  · decide
theorem fn104 : Is104 Tryd.prog sF sT := by
  refine ⟨⟨Tryd.prog.funcs[sF 104]?.getD default, (Tryd.prog.funcs[sF 104]?.getD default).body.getD .skip, fun d => 0, ?_, ?_, ?_, ?_, ?_⟩, ?_, ?_⟩
  · kernel_rfl
  · kernel_rfl
  · kernel_rfl
  · kernel_rfl
  · kernel_rfl
  · rfl
  · decide
theorem fn105 : Is105 Tryd.prog sF sT := by
  refine ⟨⟨Tryd.prog.funcs[sF 105]?.getD default, (Tryd.prog.funcs[sF 105]?.getD default).body.getD .skip, fun d => 0, ?_, ?_, ?_, ?_, ?_⟩, ?_, ?_⟩
  · kernel_rfl
  · kernel_rfl
  · kernel_rfl
  · kernel_rfl
  · kernel_rfl
  · rfl
  · decide
theorem fn106 : Is106 Tryd.prog sF sT := by
  refine ⟨⟨Tryd.prog.funcs[sF 106]?.getD default, (Tryd.prog.funcs[sF 106]?.getD default).body.getD .skip, fun d => 0, ?_, ?_, ?_, ?_, ?_⟩, ?_, ?_⟩
  · kernel_rfl
  · kernel_rfl
  · kernel_rfl
  · kernel_rfl
  · kernel_rfl
  · rfl
  · decide
theorem fn107 : Is107 Tryd.prog sF sT := by
  refine ⟨⟨Tryd.prog.funcs[sF 107]?.getD default, (Tryd.prog.funcs[sF 107]?.getD default).body.getD .skip, fun d => 0, ?_, ?_, ?_, ?_, ?_⟩, ?_, ?_⟩
  · kernel_rfl
  · kernel_rfl
  · kernel_rfl
  · kernel_rfl
  · kernel_rfl
  · rfl
  · decide
theorem fn108 : Is108 Tryd.prog sF sT := by
  refine ⟨⟨Tryd.prog.funcs[sF 108]?.getD default, (Tryd.prog.funcs[sF 108]?.getD default).body.getD .skip, fun d => 0, ?_, ?_, ?_, ?_, ?_⟩, ?_, ?_⟩
  · kernel_rfl
  · kernel_rfl
  · kernel_rfl
  · kernel_rfl
  · kernel_rfl
  · rfl
  · decide
theorem fn112 : Is112 Tryd.prog sF sT := by
  refine ⟨⟨Tryd.prog.funcs[sF 112]?.getD default, (Tryd.prog.funcs[sF 112]?.getD default).body.getD .skip, fun d => if d = 1000032 then 4 else 0, ?_, ?_, ?_, ?_, ?_⟩, ?_, ?_⟩
  · kernel_rfl
  · kernel_rfl
  · kernel_rfl
  · kernel_rfl
  · kernel_rfl
  · rfl
  · decide
theorem fn116 : Is116 Tryd.prog sF sT := by
  refine ⟨⟨Tryd.prog.funcs[sF 116]?.getD default, (Tryd.prog.funcs[sF 116]?.getD default).body.getD .skip, fun d => 0, ?_, ?_, ?_, ?_, ?_⟩, ?_, ?_⟩
  · kernel_rfl
  · kernel_rfl
  · kernel_rfl
  · kernel_rfl
  · kernel_rfl
  · rfl
  · decide
theorem fn123 : Is123 Tryd.prog sF sT := by
  refine ⟨⟨Tryd.prog.funcs[sF 123]?.getD default, (Tryd.prog.funcs[sF 123]?.getD default).body.getD .skip, fun d => 0, ?_, ?_, ?_, ?_, ?_⟩, ?_, ?_⟩
  · kernel_rfl
  · kernel_rfl
  · kernel_rfl
  · kernel_rfl
  · kernel_rfl
  · rfl
  · decide
theorem fn124 : Is124 Tryd.prog sF sT := by
  refine ⟨⟨Tryd.prog.funcs[sF 124]?.getD default, (Tryd.prog.funcs[sF 124]?.getD default).body.getD .skip, fun d => 0, ?_, ?_, ?_, ?_, ?_⟩, ?_, ?_⟩
  · kernel_rfl
  · kernel_rfl
  · kernel_rfl
  · kernel_rfl
  · kernel_rfl
  · rfl
  · decide
theorem fn125 : Is125 Tryd.prog sF sT := by
  refine ⟨⟨Tryd.prog.funcs[sF 125]?.getD default, (Tryd.prog.funcs[sF 125]?.getD default).body.getD .skip, fun d => 0, ?_, ?_, ?_, ?_, ?_⟩, ?_, ?_⟩
  · kernel_rfl
  · kernel_rfl
  · kernel_rfl
  · kernel_rfl
  · kernel_rfl
  · rfl
  · decide
theorem fn126 : Is126 Tryd.prog sF sT := by
  refine ⟨⟨Tryd.prog.funcs[sF 126]?.getD default, (Tryd.prog.funcs[sF 126]?.getD default).body.getD .skip, fun d => 0, ?_, ?_, ?_, ?_, ?_⟩, ?_, ?_⟩
  · kernel_rfl
  · kernel_rfl
  · kernel_rfl
  · kernel_rfl
  · kernel_rfl
  · rfl
  · decide
theorem fn127 : Is127 Tryd.prog sF sT := by
  refine ⟨⟨Tryd.prog.funcs[sF 127]?.getD default, (Tryd.prog.funcs[sF 127]?.getD default).body.getD .skip, fun d => 0, ?_, ?_, ?_, ?_, ?_⟩, ?_, ?_⟩
  · kernel_rfl
  · kernel_rfl
  · kernel_rfl
  · kernel_rfl
  · kernel_rfl
  · rfl
  · decide
theorem fn128 : Is128 Tryd.prog sF sT := by
  refine ⟨⟨Tryd.prog.funcs[sF 128]?.getD default, (Tryd.prog.funcs[sF 128]?.getD default).body.getD .skip, fun d => 0, ?_, ?_, ?_, ?_, ?_⟩, ?_, ?_⟩
  · kernel_rfl
  · kernel_rfl
  · kernel_rfl
  · kernel_rfl
  · kernel_rfl
  · rfl
  · decide
theorem fn129 : Is129 Tryd.prog sF sT := by
  refine ⟨⟨Tryd.prog.funcs[sF 129]?.getD default, (Tryd.prog.funcs[sF 129]?.getD default).body.getD .skip, fun d => 0, ?_, ?_, ?_, ?_, ?_⟩, ?_, ?_⟩
  · kernel_rfl
  · kernel_rfl
  · kernel_rfl
  · kernel_rfl
  · kernel_rfl
  · rfl
  · decide
theorem fn130 : Is130 Tryd.prog sF sT := by
  refine ⟨⟨Tryd.prog.funcs[sF 130]?.getD default, (Tryd.prog.funcs[sF 130]?.getD default).body.getD .skip, fun d => if d = 1000015 then 4 else if d = 1000014 then 4 else 0, ?_, ?_, ?_, ?_, ?_⟩, ?_, ?_⟩
  · kernel_rfl
  · kernel_rfl
  · kernel_rfl
  · kernel_rfl
  · kernel_rfl
  · rfl
  · decide
theorem fn131 : Is131 Tryd.prog sF sT := by
  refine ⟨⟨Tryd.prog.funcs[sF 131]?.getD default, (Tryd.prog.funcs[sF 131]?.getD default).body.getD .skip, fun d => 0, ?_, ?_, ?_, ?_, ?_⟩, ?_, ?_⟩
  · kernel_rfl
  · kernel_rfl
  · kernel_rfl
  · kernel_rfl
  · kernel_rfl
  · rfl
  · decide
theorem fn132 : Is132 Tryd.prog sF sT := by
  refine ⟨⟨Tryd.prog.funcs[sF 132]?.getD default, (Tryd.prog.funcs[sF 132]?.getD default).body.getD .skip, fun d => 0, ?_, ?_, ?_, ?_, ?_⟩, ?_, ?_⟩
  · kernel_rfl
  · kernel_rfl
  · kernel_rfl
  · kernel_rfl
  · kernel_rfl
  · rfl
  · decide
theorem fn133 : Is133 Tryd.prog sF sT := by
  refine ⟨⟨Tryd.prog.funcs[sF 133]?.getD default, (Tryd.prog.funcs[sF 133]?.getD default).body.getD .skip, fun d => if d = 1000015 then 4 else if d = 1000014 then 4 else 0, ?_, ?_, ?_, ?_, ?_⟩, ?_, ?_⟩
  · kernel_rfl
  · kernel_rfl
  · kernel_rfl
  · kernel_rfl
  · kernel_rfl
  · rfl
  · decide
theorem fn134 : Is134 Tryd.prog sF sT := by
  refine ⟨⟨Tryd.prog.funcs[sF 134]?.getD default, (Tryd.prog.funcs[sF 134]?.getD default).body.getD .skip, fun d => 0, ?_, ?_, ?_, ?_, ?_⟩, ?_, ?_⟩
  · kernel_rfl
  · kernel_rfl
  · kernel_rfl
  · kernel_rfl
  · kernel_rfl
  · rfl
  · decide
theorem fn135 : Is135 Tryd.prog sF sT := by
  refine ⟨⟨Tryd.prog.funcs[sF 135]?.getD default, (Tryd.prog.funcs[sF 135]?.getD default).body.getD .skip, fun d => 0, ?_, ?_, ?_, ?_, ?_⟩, ?_, ?_⟩
  · kernel_rfl
  · kernel_rfl
  · kernel_rfl
  · kernel_rfl
  · kernel_rfl
  · rfl
  · decide
theorem fn136 : Is136 Tryd.prog sF sT := by
  refine ⟨⟨Tryd.prog.funcs[sF 136]?.getD default, (Tryd.prog.funcs[sF 136]?.getD default).body.getD .skip, fun d => 0, ?_, ?_, ?_, ?_, ?_⟩, ?_, ?_⟩
  · kernel_rfl
  · kernel_rfl
  · kernel_rfl
  · kernel_rfl
  · kernel_rfl
  · rfl
  · decide
theorem fn137 : Is137 Tryd.prog sF sT := by
  refine ⟨⟨Tryd.prog.funcs[sF 137]?.getD default, (Tryd.prog.funcs[sF 137]?.getD default).body.getD .skip, fun d => 0, ?_, ?_, ?_, ?_, ?_⟩, ?_, ?_⟩
  · kernel_rfl
  · kernel_rfl
  · kernel_rfl
  · kernel_rfl
  · kernel_rfl
  · rfl
  · decide
theorem fn138 : Is138 Tryd.prog sF sT := by
  refine ⟨⟨Tryd.prog.funcs[sF 138]?.getD default, (Tryd.prog.funcs[sF 138]?.getD default).body.getD .skip, fun d => 0, ?_, ?_, ?_, ?_, ?_⟩, ?_, ?_⟩
  · kernel_rfl
  · kernel_rfl
  · kernel_rfl
  · kernel_rfl
  · kernel_rfl
  · rfl
  · decide
theorem fn139 : Is139 Tryd.prog sF sT := by
  refine ⟨⟨Tryd.prog.funcs[sF 139]?.getD default, (Tryd.prog.funcs[sF 139]?.getD default).body.getD .skip, fun d => 0, ?_, ?_, ?_, ?_, ?_⟩, ?_, ?_⟩
  · kernel_rfl
  · kernel_rfl
  · kernel_rfl
  · kernel_rfl
  · kernel_rfl
  · rfl
  · decide
theorem fn141 : Is141 Tryd.prog sF sT := by
  refine ⟨⟨Tryd.prog.funcs[sF 141]?.getD default, (Tryd.prog.funcs[sF 141]?.getD default).body.getD .skip, fun d => 0, ?_, ?_, ?_, ?_, ?_⟩, ?_, ?_⟩
  · kernel_rfl
  · kernel_rfl
  · kernel_rfl
  · kernel_rfl
  · kernel_rfl
  · rfl
  · decide
end Go.Ab
