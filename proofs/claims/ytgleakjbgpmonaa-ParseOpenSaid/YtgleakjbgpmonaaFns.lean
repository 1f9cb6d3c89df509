/- The functions of this seat, by program. No condition. -/
import Derived.Test.YtgleakjbgpmonaaProg
import Derived.Test.YtgleakjbgpmonaaAbE5
import Derived.Test.YtgleakjbgpmonaaAbP1
import Derived.Test.YtgleakjbgpmonaaAbP3
import Derived.Test.YtgleakjbgpmonaaAbR1
namespace Go.Ab
open Go.Proofs
set_option maxRecDepth 100000
def sF (k : Nat) : Nat := [0, 0, 27, 0, 0, 0, 0, 16, 0, 0, 0, 0, 0, 0, 0, 0, 0, 0, 0, 0, 26, 0, 46, 42, 0, 25, 0, 40, 45, 84, 78, 104, 105, 111, 3, 13, 14, 15, 4, 17, 18, 5, 19, 6, 20, 7, 21, 22, 8, 23, 24, 9, 10, 11, 28, 12, 29, 30, 31, 32, 33, 34, 35, 36, 43, 44, 47, 48, 49, 50, 51, 52, 53, 54, 55, 56, 57, 58, 59, 60, 61, 62, 63, 64, 65, 66, 67, 68, 69, 70, 71, 72, 73, 74, 37, 75, 76, 38, 77, 41, 80, 81, 82, 83, 89, 90, 91, 92, 93, 94, 95, 96, 97, 86, 87, 88, 108, 102, 103, 110, 106, 100, 107].getD k 0
def sT (k : Nat) : Nat := [37, 39, 80, 5, 23, 58, 56, 61, 50, 69, 73, 66, 115, 123].getD k 0
theorem fn2 : Is2 Try.prog sF sT := by
  refine ⟨⟨Try.prog.funcs[sF 2]?.getD default, (Try.prog.funcs[sF 2]?.getD default).body.getD .skip, fun d => if d = 1000042 then 4 else if d = 1000046 then 4 else 0, ?_, ?_, ?_, ?_, ?_⟩, ?_, ?_⟩
  · kernel_rfl
  · kernel_rfl
  · kernel_rfl
  · kernel_rfl
  · kernel_rfl
  · rfl
  · decide
theorem fn7 : Is7 Try.prog sF sT := by
  refine ⟨⟨Try.prog.funcs[sF 7]?.getD default, (Try.prog.funcs[sF 7]?.getD default).body.getD .skip, fun d => if d = 23 then 2 else if d = 27 then 2 else 0, ?_, ?_, ?_, ?_, ?_⟩, ?_, ?_⟩
  · kernel_rfl
  · kernel_rfl
  · kernel_rfl
  · kernel_rfl
  · kernel_rfl
  · rfl
  · decide
theorem fn20 : Is20 Try.prog sF sT := by
  refine ⟨⟨Try.prog.funcs[sF 20]?.getD default, (Try.prog.funcs[sF 20]?.getD default).body.getD .skip, fun d => 0, ?_, ?_, ?_, ?_, ?_⟩, ?_, ?_⟩
  · kernel_rfl
  · kernel_rfl
  · kernel_rfl
  · kernel_rfl
  · kernel_rfl
  · rfl
  · decide
theorem fn22 : Is22 Try.prog sF sT := by
  refine ⟨⟨Try.prog.funcs[sF 22]?.getD default, (Try.prog.funcs[sF 22]?.getD default).body.getD .skip, fun d => if d = 1000084 then 4 else 0, ?_, ?_, ?_, ?_, ?_⟩, ?_, ?_⟩
  · kernel_rfl
  · kernel_rfl
  · kernel_rfl
  · kernel_rfl
  · kernel_rfl
  · rfl
  · decide
theorem fn23 : Is23 Try.prog sF sT := by
  refine ⟨⟨Try.prog.funcs[sF 23]?.getD default, (Try.prog.funcs[sF 23]?.getD default).body.getD .skip, fun d => 0, ?_, ?_, ?_, ?_, ?_⟩, ?_, ?_⟩
  · kernel_rfl
  · kernel_rfl
  · kernel_rfl
  · kernel_rfl
  · kernel_rfl
  · rfl
  · decide
theorem fn27 : Is27 Try.prog sF sT := by
  refine ⟨⟨Try.prog.funcs[sF 27]?.getD default, (Try.prog.funcs[sF 27]?.getD default).body.getD .skip, fun d => if d = 1000078 then 4 else 0, ?_, ?_, ?_, ?_, ?_⟩, ?_, ?_⟩
  · kernel_rfl
  · kernel_rfl
  · kernel_rfl
  · kernel_rfl
  · kernel_rfl
  · rfl
  · decide
theorem fn28 : Is28 Try.prog sF sT := by
  refine ⟨⟨Try.prog.funcs[sF 28]?.getD default, (Try.prog.funcs[sF 28]?.getD default).body.getD .skip, fun d => 0, ?_, ?_, ?_, ?_, ?_⟩, ?_, ?_⟩
  · kernel_rfl
  · kernel_rfl
  · kernel_rfl
  · kernel_rfl
  · kernel_rfl
  · rfl
  · decide
theorem fn29 : Is29 Try.prog sF sT := by
  refine ⟨⟨Try.prog.funcs[sF 29]?.getD default, (Try.prog.funcs[sF 29]?.getD default).body.getD .skip, fun d => if d = 1000040 then 4 else if d = 1000046 then 4 else if d = 1000104 then 4 else 0, ?_, ?_, ?_, ?_, ?_⟩, ?_, ?_⟩
  · kernel_rfl
  · kernel_rfl
  · kernel_rfl
  · kernel_rfl
  · kernel_rfl
  · rfl
  · decide
theorem fn30 : Is30 Try.prog sF sT := by
  refine ⟨⟨Try.prog.funcs[sF 30]?.getD default, (Try.prog.funcs[sF 30]?.getD default).body.getD .skip, fun d => 0, ?_, ?_, ?_, ?_, ?_⟩, ?_, ?_⟩
  · kernel_rfl
  · kernel_rfl
  · kernel_rfl
  · kernel_rfl
  · kernel_rfl
  · rfl
  · decide
theorem fn31 : Is31 Try.prog sF sT := by
  refine ⟨⟨Try.prog.funcs[sF 31]?.getD default, (Try.prog.funcs[sF 31]?.getD default).body.getD .skip, fun d => if d = 1000040 then 4 else if d = 1000111 then 4 else if d = 1000046 then 4 else 0, ?_, ?_, ?_, ?_, ?_⟩, ?_, ?_⟩
  · kernel_rfl
  · kernel_rfl
  · kernel_rfl
  · kernel_rfl
  · kernel_rfl
  · rfl
  · decide
theorem fn32 : Is32 Try.prog sF sT := by
  refine ⟨⟨Try.prog.funcs[sF 32]?.getD default, (Try.prog.funcs[sF 32]?.getD default).body.getD .skip, fun d => 0, ?_, ?_, ?_, ?_, ?_⟩, ?_, ?_⟩
  · kernel_rfl
  · kernel_rfl
  · kernel_rfl
  · kernel_rfl
  · kernel_rfl
  · rfl
  · decide
theorem fn33 : Is33 Try.prog sF sT := by
  refine ⟨⟨Try.prog.funcs[sF 33]?.getD default, (Try.prog.funcs[sF 33]?.getD default).body.getD .skip, fun d => if d = 1000078 then 4 else 0, ?_, ?_, ?_, ?_, ?_⟩, ?_, ?_⟩
  · kernel_rfl
  · kernel_rfl
  · kernel_rfl
  · kernel_rfl
  · kernel_rfl
  · rfl
  · decide
theorem fn35 : Is35 Try.prog sF sT := by
  refine ⟨⟨Try.prog.funcs[sF 35]?.getD default, (Try.prog.funcs[sF 35]?.getD default).body.getD .skip, fun d => 0, ?_, ?_, ?_, ?_, ?_⟩, ?_, ?_⟩
  · kernel_rfl
  · kernel_rfl
  · kernel_rfl
  · kernel_rfl
  · kernel_rfl
  · rfl
  · decide
theorem fn36 : Is36 Try.prog sF sT := by
  refine ⟨⟨Try.prog.funcs[sF 36]?.getD default, (Try.prog.funcs[sF 36]?.getD default).body.getD .skip, fun d => if d = 19 then 1 else if d = 1000030 then 4 else if d = 1000031 then 4 else if d = 1000032 then 4 else 0, ?_, ?_, ?_, ?_, ?_⟩, ?_, ?_⟩
  · kernel_rfl
  · kernel_rfl
  · kernel_rfl
  · kernel_rfl
  · kernel_rfl
  · rfl
  · decide
theorem fn44 : Is44 Try.prog sF sT := by
  refine ⟨⟨Try.prog.funcs[sF 44]?.getD default, (Try.prog.funcs[sF 44]?.getD default).body.getD .skip, fun d => 0, ?_, ?_, ?_, ?_, ?_⟩, ?_, ?_⟩
  · kernel_rfl
  · kernel_rfl
  · kernel_rfl
  · kernel_rfl
  · kernel_rfl
  · rfl
  · decide
theorem fn53 : Is53 Try.prog sF sT := by
  refine ⟨⟨Try.prog.funcs[sF 53]?.getD default, (Try.prog.funcs[sF 53]?.getD default).body.getD .skip, fun d => 0, ?_, ?_, ?_, ?_, ?_⟩, ?_, ?_⟩
  · kernel_rfl
  · kernel_rfl
  · kernel_rfl
  · kernel_rfl
  · kernel_rfl
  · rfl
  · decide
theorem fn55 : Is55 Try.prog sF sT := by
  refine ⟨⟨Try.prog.funcs[sF 55]?.getD default, (Try.prog.funcs[sF 55]?.getD default).body.getD .skip, fun d => 0, ?_, ?_, ?_, ?_, ?_⟩, ?_, ?_⟩
  · kernel_rfl
  · kernel_rfl
  · kernel_rfl
  · kernel_rfl
  · kernel_rfl
  · rfl
  · decide
theorem fn56 : Is56 Try.prog sF sT := by
  refine ⟨⟨Try.prog.funcs[sF 56]?.getD default, (Try.prog.funcs[sF 56]?.getD default).body.getD .skip, fun d => 0, ?_, ?_, ?_, ?_, ?_⟩, ?_, ?_⟩
  · kernel_rfl
  · kernel_rfl
  · kernel_rfl
  · kernel_rfl
  · kernel_rfl
  · rfl
  · decide
theorem fn57 : Is57 Try.prog sF sT := by
  refine ⟨⟨Try.prog.funcs[sF 57]?.getD default, (Try.prog.funcs[sF 57]?.getD default).body.getD .skip, fun d => if d = 1000050 then 4 else if d = 1000051 then 4 else if d = 1000052 then 4 else if d = 1000054 then 4 else if d = 1000055 then 4 else if d = 1000056 then 4 else if d = 1000057 then 4 else if d = 1000058 then 4 else 0, ?_, ?_, ?_, ?_, ?_⟩, ?_, ?_⟩
  · kernel_rfl
  · kernel_rfl
  · kernel_rfl
  · kernel_rfl
  · kernel_rfl
  · rfl
  · decide
theorem fn58 : Is58 Try.prog sF sT := by
  refine ⟨⟨Try.prog.funcs[sF 58]?.getD default, (Try.prog.funcs[sF 58]?.getD default).body.getD .skip, fun d => if d = 1000050 then 4 else if d = 1000059 then 4 else if d = 1000061 then 4 else 0, ?_, ?_, ?_, ?_, ?_⟩, ?_, ?_⟩
  · kernel_rfl
  · kernel_rfl
  · kernel_rfl
  · kernel_rfl
  · kernel_rfl
  · rfl
  · decide
theorem fn59 : Is59 Try.prog sF sT := by
  refine ⟨⟨Try.prog.funcs[sF 59]?.getD default, (Try.prog.funcs[sF 59]?.getD default).body.getD .skip, fun d => 0, ?_, ?_, ?_, ?_, ?_⟩, ?_, ?_⟩
  · kernel_rfl
  · kernel_rfl
  · kernel_rfl
  · kernel_rfl
  · kernel_rfl
  · rfl
  · decide
theorem fn67 : Is67 Try.prog sF sT := by
  refine ⟨⟨Try.prog.funcs[sF 67]?.getD default, (Try.prog.funcs[sF 67]?.getD default).body.getD .skip, fun d => 0, ?_, ?_, ?_, ?_, ?_⟩, ?_, ?_⟩
  · kernel_rfl
  · kernel_rfl
  · kernel_rfl
  · kernel_rfl
  · kernel_rfl
  · rfl
  · decide
theorem fn68 : Is68 Try.prog sF sT := by
  refine ⟨⟨Try.prog.funcs[sF 68]?.getD default, (Try.prog.funcs[sF 68]?.getD default).body.getD .skip, fun d => 0, ?_, ?_, ?_, ?_, ?_⟩, ?_, ?_⟩
  · kernel_rfl
  · kernel_rfl
  · kernel_rfl
  · kernel_rfl
  · kernel_rfl
  · rfl
  · decide
theorem fn69 : Is69 Try.prog sF sT := by
  refine ⟨⟨Try.prog.funcs[sF 69]?.getD default, (Try.prog.funcs[sF 69]?.getD default).body.getD .skip, fun d => if d = 2000048 then 5 else if d = 2000049 then 6 else if d = 1000032 then 4 else if d = 1000091 then 4 else 0, ?_, ?_, ?_, ?_, ?_⟩, ?_, ?_⟩
  · kernel_rfl
  · kernel_rfl
  · kernel_rfl
  · kernel_rfl
  · kernel_rfl
  · rfl
  · decide
theorem fn70 : Is70 Try.prog sF sT := by
  refine ⟨⟨Try.prog.funcs[sF 70]?.getD default, (Try.prog.funcs[sF 70]?.getD default).body.getD .skip, fun d => if d = 11 then 2 else if d = 2000015 then 5 else if d = 2000016 then 6 else if d = 1000032 then 4 else if d = 1000091 then 4 else 0, ?_, ?_, ?_, ?_, ?_⟩, ?_, ?_⟩
  · kernel_rfl
  · kernel_rfl
  · kernel_rfl
  · kernel_rfl
  · kernel_rfl
  · rfl
  · decide
theorem fn71 : Is71 Try.prog sF sT := by
  refine ⟨⟨Try.prog.funcs[sF 71]?.getD default, (Try.prog.funcs[sF 71]?.getD default).body.getD .skip, fun d => if d = 1000050 then 4 else 0, ?_, ?_, ?_, ?_, ?_⟩, ?_, ?_⟩
  · kernel_rfl
  · kernel_rfl
  · kernel_rfl
  · kernel_rfl
  · kernel_rfl
  · rfl
  · decide
theorem fn72 : Is72 Try.prog sF sT := by
  refine ⟨⟨Try.prog.funcs[sF 72]?.getD default, (Try.prog.funcs[sF 72]?.getD default).body.getD .skip, fun d => 0, ?_, ?_, ?_, ?_, ?_⟩, ?_, ?_⟩
  · kernel_rfl
  · kernel_rfl
  · kernel_rfl
  · kernel_rfl
  · kernel_rfl
  · rfl
  · decide
theorem fn73 : Is73 Try.prog sF sT := by
  refine ⟨⟨Try.prog.funcs[sF 73]?.getD default, (Try.prog.funcs[sF 73]?.getD default).body.getD .skip, fun d => if d = 1000032 then 4 else if d = 1000050 then 4 else 0, ?_, ?_, ?_, ?_, ?_⟩, ?_, ?_⟩
  · kernel_rfl
  · kernel_rfl
  · kernel_rfl
  · kernel_rfl
  · kernel_rfl
  · rfl
  · decide
theorem fn74 : Is74 Try.prog sF sT := by
  refine ⟨⟨Try.prog.funcs[sF 74]?.getD default, (Try.prog.funcs[sF 74]?.getD default).body.getD .skip, fun d => if d = 1000032 then 4 else if d = 1000050 then 4 else 0, ?_, ?_, ?_, ?_, ?_⟩, ?_, ?_⟩
  · kernel_rfl
  · kernel_rfl
  · kernel_rfl
  · kernel_rfl
  · kernel_rfl
  · rfl
  · decide
theorem fn75 : Is75 Try.prog sF sT := by
  refine ⟨⟨Try.prog.funcs[sF 75]?.getD default, (Try.prog.funcs[sF 75]?.getD default).body.getD .skip, fun d => if d = 1000032 then 4 else if d = 1000050 then 4 else if d = 1000059 then 4 else if d = 1000061 then 4 else 0, ?_, ?_, ?_, ?_, ?_⟩, ?_, ?_⟩
  · kernel_rfl
  · kernel_rfl
  · kernel_rfl
  · kernel_rfl
  · kernel_rfl
  · rfl
  · decide
theorem fn76 : Is76 Try.prog sF sT := by
  refine ⟨⟨Try.prog.funcs[sF 76]?.getD default, (Try.prog.funcs[sF 76]?.getD default).body.getD .skip, fun d => if d = 1000031 then 4 else if d = 1000050 then 4 else if d = 1000051 then 4 else if d = 1000059 then 4 else 0, ?_, ?_, ?_, ?_, ?_⟩, ?_, ?_⟩
  · kernel_rfl
  · kernel_rfl
  · kernel_rfl
  · kernel_rfl
  · kernel_rfl
  · rfl
  · decide
theorem fn77 : Is77 Try.prog sF sT := by
  refine ⟨⟨Try.prog.funcs[sF 77]?.getD default, (Try.prog.funcs[sF 77]?.getD default).body.getD .skip, fun d => if d = 65 then 1 else if d = 1000031 then 4 else if d = 1000032 then 4 else if d = 1000050 then 4 else if d = 1000051 then 4 else if d = 1000059 then 4 else if d = 1000093 then 4 else 0, ?_, ?_, ?_, ?_, ?_⟩, ?_, ?_⟩
  · kernel_rfl
  · kernel_rfl
  · kernel_rfl
  · kernel_rfl
  · kernel_rfl
  · rfl
  · decide
theorem fn78 : Is78 Try.prog sF sT := by
  refine ⟨⟨Try.prog.funcs[sF 78]?.getD default, (Try.prog.funcs[sF 78]?.getD default).body.getD .skip, fun d => if d = 1000032 then 4 else 0, ?_, ?_, ?_, ?_, ?_⟩, ?_, ?_⟩
  · kernel_rfl
  · kernel_rfl
  · kernel_rfl
  · kernel_rfl
  · kernel_rfl
  · rfl
  · decide
theorem fn79 : Is79 Try.prog sF sT := by
  refine ⟨⟨Try.prog.funcs[sF 79]?.getD default, (Try.prog.funcs[sF 79]?.getD default).body.getD .skip, fun d => 0, ?_, ?_, ?_, ?_, ?_⟩, ?_, ?_⟩
  · kernel_rfl
  · kernel_rfl
  · kernel_rfl
  · kernel_rfl
  · kernel_rfl
  · rfl
  · decide
theorem fn80 : Is80 Try.prog sF sT := by
  refine ⟨⟨Try.prog.funcs[sF 80]?.getD default, (Try.prog.funcs[sF 80]?.getD default).body.getD .skip, fun d => if d = 1000050 then 4 else if d = 1000051 then 4 else 0, ?_, ?_, ?_, ?_, ?_⟩, ?_, ?_⟩
  · kernel_rfl
  · kernel_rfl
  · kernel_rfl
  · kernel_rfl
  · kernel_rfl
  · rfl
  · decide
theorem fn97 : Is97 Try.prog sF sT := by
  refine ⟨⟨Try.prog.funcs[sF 97]?.getD default, (Try.prog.funcs[sF 97]?.getD default).body.getD .skip, fun d => 0, ?_, ?_, ?_, ?_, ?_⟩, ?_, ?_⟩
  · kernel_rfl
  · kernel_rfl
  · kernel_rfl
  · kernel_rfl
  · kernel_rfl
  · rfl
  · decide
theorem fn98 : Is98 Try.prog sF sT := by
  refine ⟨⟨Try.prog.funcs[sF 98]?.getD default, (Try.prog.funcs[sF 98]?.getD default).body.getD .skip, fun d => 0, ?_, ?_, ?_, ?_, ?_⟩, ?_, ?_⟩
  · kernel_rfl
  · kernel_rfl
  · kernel_rfl
  · kernel_rfl
  · kernel_rfl
  · rfl
  · decide
theorem fn104 : Is104 Try.prog sF sT := by
  refine ⟨⟨Try.prog.funcs[sF 104]?.getD default, (Try.prog.funcs[sF 104]?.getD default).body.getD .skip, fun d => 0, ?_, ?_, ?_, ?_, ?_⟩, ?_, ?_⟩
  · kernel_rfl
  · kernel_rfl
  · kernel_rfl
  · kernel_rfl
  · kernel_rfl
  · rfl
  · decide
theorem fn105 : Is105 Try.prog sF sT := by
  refine ⟨⟨Try.prog.funcs[sF 105]?.getD default, (Try.prog.funcs[sF 105]?.getD default).body.getD .skip, fun d => 0, ?_, ?_, ?_, ?_, ?_⟩, ?_, ?_⟩
  · kernel_rfl
  · kernel_rfl
  · kernel_rfl
  · kernel_rfl
  · kernel_rfl
  · rfl
  · decide
theorem fn106 : Is106 Try.prog sF sT := by
  refine ⟨⟨Try.prog.funcs[sF 106]?.getD default, (Try.prog.funcs[sF 106]?.getD default).body.getD .skip, fun d => 0, ?_, ?_, ?_, ?_, ?_⟩, ?_, ?_⟩
  · kernel_rfl
  · kernel_rfl
  · kernel_rfl
  · kernel_rfl
  · kernel_rfl
  · rfl
  · decide
theorem fn107 : Is107 Try.prog sF sT := by
  refine ⟨⟨Try.prog.funcs[sF 107]?.getD default, (Try.prog.funcs[sF 107]?.getD default).body.getD .skip, fun d => 0, ?_, ?_, ?_, ?_, ?_⟩, ?_, ?_⟩
  · kernel_rfl
  · kernel_rfl
  · kernel_rfl
  · kernel_rfl
  · kernel_rfl
  · rfl
  · decide
theorem fn108 : Is108 Try.prog sF sT := by
  refine ⟨⟨Try.prog.funcs[sF 108]?.getD default, (Try.prog.funcs[sF 108]?.getD default).body.getD .skip, fun d => 0, ?_, ?_, ?_, ?_, ?_⟩, ?_, ?_⟩
  · kernel_rfl
  · kernel_rfl
  · kernel_rfl
  · kernel_rfl
  · kernel_rfl
  · rfl
  · decide
theorem fn116 : Is116 Try.prog sF sT := by
  refine ⟨⟨Try.prog.funcs[sF 116]?.getD default, (Try.prog.funcs[sF 116]?.getD default).body.getD .skip, fun d => 0, ?_, ?_, ?_, ?_, ?_⟩, ?_, ?_⟩
  · kernel_rfl
  · kernel_rfl
  · kernel_rfl
  · kernel_rfl
  · kernel_rfl
  · rfl
  · decide
end Go.Ab
