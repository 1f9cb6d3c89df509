/- The functions of this seat, by program. No condition. -/
import Derived.Test.YtbipjhcnooellaaProg
import Derived.Test.YtbipjhcnooellaaAbG1
namespace Go.Ab
open Go.Proofs
set_option maxRecDepth 100000
def sF (k : Nat) : Nat := [3, 11, 12, 13, 14, 4, 15, 16, 5, 6, 17, 18, 19, 20, 7, 8, 9, 21, 22, 10, 23, 24, 25, 26, 27, 28, 29, 30, 31, 32, 33, 34, 35, 37].getD k 0
def sT (k : Nat) : Nat := [30, 32, 43, 5, 22].getD k 0
theorem fn30 : Is30 Try.prog sF sT := by
  refine ⟨⟨Try.prog.funcs[sF 30]?.getD default, (Try.prog.funcs[sF 30]?.getD default).body.getD .skip, fun d => 0, ?_, ?_, ?_, ?_, ?_⟩, ?_, ?_⟩
  · kernel_rfl
  · kernel_rfl
  · kernel_rfl
  · kernel_rfl
  · kernel_rfl
  · rfl
  · decide
theorem fn27 : Is27 Try.prog sF sT := by
  refine ⟨⟨Try.prog.funcs[sF 27]?.getD default, (Try.prog.funcs[sF 27]?.getD default).body.getD .skip, fun d => if d = 1000033 then 4 else 0, ?_, ?_, ?_, ?_, ?_⟩, ?_, ?_⟩
  · kernel_rfl
  · kernel_rfl
  · kernel_rfl
  · kernel_rfl
  · kernel_rfl
  · rfl
  · decide
theorem fn33 : Is33 Try.prog sF sT := by
  refine ⟨⟨Try.prog.funcs[sF 33]?.getD default, (Try.prog.funcs[sF 33]?.getD default).body.getD .skip, fun d => if d = 1000033 then 4 else 0, ?_, ?_, ?_, ?_, ?_⟩, ?_, ?_⟩
  · kernel_rfl
  · kernel_rfl
  · kernel_rfl
  · kernel_rfl
  · kernel_rfl
  · rfl
  · decide
theorem fn23 : Is23 Try.prog sF sT := by
  refine ⟨⟨Try.prog.funcs[sF 23]?.getD default, (Try.prog.funcs[sF 23]?.getD default).body.getD .skip, fun d => 0, ?_, ?_, ?_, ?_, ?_⟩, ?_, ?_⟩
  · kernel_rfl
  · kernel_rfl
  · kernel_rfl
  · kernel_rfl
  · kernel_rfl
  · rfl
  · decide
theorem fn32 : Is32 Try.prog sF sT := by
  refine ⟨⟨Try.prog.funcs[sF 32]?.getD default, (Try.prog.funcs[sF 32]?.getD default).body.getD .skip, fun d => 0, ?_, ?_, ?_, ?_, ?_⟩, ?_, ?_⟩
  · kernel_rfl
  · kernel_rfl
  · kernel_rfl
  · kernel_rfl
  · kernel_rfl
  · rfl
  · decide
theorem fn29 : Is29 Try.prog sF sT := by
  refine ⟨⟨Try.prog.funcs[sF 29]?.getD default, (Try.prog.funcs[sF 29]?.getD default).body.getD .skip, fun d => if d = 1000030 then 4 else if d = 1000025 then 4 else if d = 1000034 then 4 else 0, ?_, ?_, ?_, ?_, ?_⟩, ?_, ?_⟩
  · kernel_rfl
  · kernel_rfl
  · kernel_rfl
  · kernel_rfl
  · kernel_rfl
  · rfl
  · decide
theorem fn31 : Is31 Try.prog sF sT := by
  refine ⟨⟨Try.prog.funcs[sF 31]?.getD default, (Try.prog.funcs[sF 31]?.getD default).body.getD .skip, fun d => if d = 1000030 then 4 else if d = 1000037 then 4 else if d = 1000025 then 4 else 0, ?_, ?_, ?_, ?_, ?_⟩, ?_, ?_⟩
  · kernel_rfl
  · kernel_rfl
  · kernel_rfl
  · kernel_rfl
  · kernel_rfl
  · rfl
  · decide
theorem fn22 : Is22 Try.prog sF sT := by
  refine ⟨⟨Try.prog.funcs[sF 22]?.getD default, (Try.prog.funcs[sF 22]?.getD default).body.getD .skip, fun d => if d = 1000032 then 4 else 0, ?_, ?_, ?_, ?_, ?_⟩, ?_, ?_⟩
  · kernel_rfl
  · kernel_rfl
  · kernel_rfl
  · kernel_rfl
  · kernel_rfl
  · rfl
  · decide
theorem fn2 : Is2 Try.prog sF sT := by
  refine ⟨⟨Try.prog.funcs[sF 2]?.getD default, (Try.prog.funcs[sF 2]?.getD default).body.getD .skip, fun d => if d = 1000026 then 4 else if d = 1000025 then 4 else 0, ?_, ?_, ?_, ?_, ?_⟩, ?_, ?_⟩
  · kernel_rfl
  · kernel_rfl
  · kernel_rfl
  · kernel_rfl
  · kernel_rfl
  · rfl
  · decide
theorem fn6 : Is6 Try.prog sF sT := by
  refine ⟨⟨Try.prog.funcs[sF 6]?.getD default, (Try.prog.funcs[sF 6]?.getD default).body.getD .skip, fun d => 0, ?_, ?_, ?_, ?_, ?_⟩, ?_, ?_⟩
  · kernel_rfl
  · kernel_rfl
  · kernel_rfl
  · kernel_rfl
  · kernel_rfl
  · rfl
  · decide
theorem fn26 : Is26 Try.prog sF sT := by
  refine ⟨⟨Try.prog.funcs[sF 26]?.getD default, (Try.prog.funcs[sF 26]?.getD default).body.getD .skip, fun d => if d = 8 then 1 else 0, ?_, ?_, ?_, ?_, ?_⟩, ?_, ?_⟩
  · kernel_rfl
  · kernel_rfl
  · kernel_rfl
  · kernel_rfl
  · kernel_rfl
  · rfl
  · decide
theorem fn10 : Is10 Try.prog sF sT := by
  refine ⟨⟨Try.prog.funcs[sF 10]?.getD default, (Try.prog.funcs[sF 10]?.getD default).body.getD .skip, fun d => 0, ?_, ?_, ?_, ?_, ?_⟩, ?_, ?_⟩
  · kernel_rfl
  · kernel_rfl
  · kernel_rfl
  · kernel_rfl
  · kernel_rfl
  · rfl
  · decide
theorem fn12 : Is12 Try.prog sF sT := by
  refine ⟨⟨Try.prog.funcs[sF 12]?.getD default, (Try.prog.funcs[sF 12]?.getD default).body.getD .skip, fun d => 0, ?_, ?_, ?_, ?_, ?_⟩, ?_, ?_⟩
  · kernel_rfl
  · kernel_rfl
  · kernel_rfl
  · kernel_rfl
  · kernel_rfl
  · rfl
  · decide
theorem fn17 : Is17 Try.prog sF sT := by
  refine ⟨⟨Try.prog.funcs[sF 17]?.getD default, (Try.prog.funcs[sF 17]?.getD default).body.getD .skip, fun d => if d = 1000026 then 4 else if d = 1000030 then 4 else 0, ?_, ?_, ?_, ?_, ?_⟩, ?_, ?_⟩
  · kernel_rfl
  · kernel_rfl
  · kernel_rfl
  · kernel_rfl
  · kernel_rfl
  · rfl
  · decide
theorem fn28 : Is28 Try.prog sF sT := by
  refine ⟨⟨Try.prog.funcs[sF 28]?.getD default, (Try.prog.funcs[sF 28]?.getD default).body.getD .skip, fun d => 0, ?_, ?_, ?_, ?_, ?_⟩, ?_, ?_⟩
  · kernel_rfl
  · kernel_rfl
  · kernel_rfl
  · kernel_rfl
  · kernel_rfl
  · rfl
  · decide
theorem fn20 : Is20 Try.prog sF sT := by
  refine ⟨⟨Try.prog.funcs[sF 20]?.getD default, (Try.prog.funcs[sF 20]?.getD default).body.getD .skip, fun d => 0, ?_, ?_, ?_, ?_, ?_⟩, ?_, ?_⟩
  · kernel_rfl
  · kernel_rfl
  · kernel_rfl
  · kernel_rfl
  · kernel_rfl
  · rfl
  · decide
theorem fn25 : Is25 Try.prog sF sT := by
  refine ⟨⟨Try.prog.funcs[sF 25]?.getD default, (Try.prog.funcs[sF 25]?.getD default).body.getD .skip, fun d => 0, ?_, ?_, ?_, ?_, ?_⟩, ?_, ?_⟩
  · kernel_rfl
  · kernel_rfl
  · kernel_rfl
  · kernel_rfl
  · kernel_rfl
  · rfl
  · decide
theorem fn3 : Is3 Try.prog sF sT := by
  refine ⟨⟨Try.prog.funcs[sF 3]?.getD default, (Try.prog.funcs[sF 3]?.getD default).body.getD .skip, fun d => 0, ?_, ?_, ?_, ?_, ?_⟩, ?_, ?_⟩
  · kernel_rfl
  · kernel_rfl
  · kernel_rfl
  · kernel_rfl
  · kernel_rfl
  · rfl
  · decide
theorem fn24 : Is24 Try.prog sF sT := by
  refine ⟨⟨Try.prog.funcs[sF 24]?.getD default, (Try.prog.funcs[sF 24]?.getD default).body.getD .skip, fun d => 0, ?_, ?_, ?_, ?_, ?_⟩, ?_, ?_⟩
  · kernel_rfl
  · kernel_rfl
  · kernel_rfl
  · kernel_rfl
  · kernel_rfl
  · rfl
  · decide
theorem fn7 : Is7 Try.prog sF sT := by
  refine ⟨⟨Try.prog.funcs[sF 7]?.getD default, (Try.prog.funcs[sF 7]?.getD default).body.getD .skip, fun d => if d = 23 then 2 else if d = 27 then 2 else 0, ?_, ?_, ?_, ?_, ?_⟩, ?_, ?_⟩
  · kernel_rfl
  · kernel_rfl
  · kernel_rfl
  · kernel_rfl
  · kernel_rfl
  · rfl
  · decide
theorem fn11 : Is11 Try.prog sF sT := by
  refine ⟨⟨Try.prog.funcs[sF 11]?.getD default, (Try.prog.funcs[sF 11]?.getD default).body.getD .skip, fun d => 0, ?_, ?_, ?_, ?_, ?_⟩, ?_, ?_⟩
  · kernel_rfl
  · kernel_rfl
  · kernel_rfl
  · kernel_rfl
  · kernel_rfl
  · rfl
  · decide
theorem fn13 : Is13 Try.prog sF sT := by
  refine ⟨⟨Try.prog.funcs[sF 13]?.getD default, (Try.prog.funcs[sF 13]?.getD default).body.getD .skip, fun d => 0, ?_, ?_, ?_, ?_, ?_⟩, ?_, ?_⟩
  · kernel_rfl
  · kernel_rfl
  · kernel_rfl
  · kernel_rfl
  · kernel_rfl
  · rfl
  · decide
theorem fn18 : Is18 Try.prog sF sT := by
  refine ⟨⟨Try.prog.funcs[sF 18]?.getD default, (Try.prog.funcs[sF 18]?.getD default).body.getD .skip, fun d => 0, ?_, ?_, ?_, ?_, ?_⟩, ?_, ?_⟩
  · kernel_rfl
  · kernel_rfl
  · kernel_rfl
  · kernel_rfl
  · kernel_rfl
  · rfl
  · decide
theorem fn21 : Is21 Try.prog sF sT := by
  refine ⟨⟨Try.prog.funcs[sF 21]?.getD default, (Try.prog.funcs[sF 21]?.getD default).body.getD .skip, fun d => 0, ?_, ?_, ?_, ?_, ?_⟩, ?_, ?_⟩
  · kernel_rfl
  · kernel_rfl
  · kernel_rfl
  · kernel_rfl
  · kernel_rfl
  · rfl
  · decide
theorem fn1 : Is1 Try.prog sF sT := by
  refine ⟨⟨Try.prog.funcs[sF 1]?.getD default, (Try.prog.funcs[sF 1]?.getD default).body.getD .skip, fun d => 0, ?_, ?_, ?_, ?_, ?_⟩, ?_, ?_⟩
  · kernel_rfl
  · kernel_rfl
  · kernel_rfl
  · kernel_rfl
  · kernel_rfl
  · rfl
  · decide
theorem fn4 : Is4 Try.prog sF sT := by
  refine ⟨⟨Try.prog.funcs[sF 4]?.getD default, (Try.prog.funcs[sF 4]?.getD default).body.getD .skip, fun d => 0, ?_, ?_, ?_, ?_, ?_⟩, ?_, ?_⟩
  · kernel_rfl
  · kernel_rfl
  · kernel_rfl
  · kernel_rfl
  · kernel_rfl
  · rfl
  · decide
theorem fn0 : Is0 Try.prog sF sT := by
  refine ⟨⟨Try.prog.funcs[sF 0]?.getD default, (Try.prog.funcs[sF 0]?.getD default).body.getD .skip, fun d => 0, ?_, ?_, ?_, ?_, ?_⟩, ?_, ?_⟩
  · kernel_rfl
  · kernel_rfl
  · kernel_rfl
  · kernel_rfl
  · kernel_rfl
  · rfl
  · decide
theorem fn5 : Is5 Try.prog sF sT := by
  refine ⟨⟨Try.prog.funcs[sF 5]?.getD default, (Try.prog.funcs[sF 5]?.getD default).body.getD .skip, fun d => if d = 28 then 3 else 0, ?_, ?_, ?_, ?_, ?_⟩, ?_, ?_⟩
  · kernel_rfl
  · kernel_rfl
  · kernel_rfl
  · kernel_rfl
  · kernel_rfl
  · rfl
  · decide
theorem fn8 : Is8 Try.prog sF sT := by
  refine ⟨⟨Try.prog.funcs[sF 8]?.getD default, (Try.prog.funcs[sF 8]?.getD default).body.getD .skip, fun d => if d = 90 then 3 else if d = 95 then 3 else 0, ?_, ?_, ?_, ?_, ?_⟩, ?_, ?_⟩
  · kernel_rfl
  · kernel_rfl
  · kernel_rfl
  · kernel_rfl
  · kernel_rfl
  · rfl
  · decide
theorem fn9 : Is9 Try.prog sF sT := by
  refine ⟨⟨Try.prog.funcs[sF 9]?.getD default, (Try.prog.funcs[sF 9]?.getD default).body.getD .skip, fun d => 0, ?_, ?_, ?_, ?_, ?_⟩, ?_, ?_⟩
  · kernel_rfl
  · kernel_rfl
  · kernel_rfl
  · kernel_rfl
  · kernel_rfl
  · rfl
  · decide
theorem fn14 : Is14 Try.prog sF sT := by
  refine ⟨⟨Try.prog.funcs[sF 14]?.getD default, (Try.prog.funcs[sF 14]?.getD default).body.getD .skip, fun d => if d = 18 then 3 else if d = 27 then 3 else if d = 37 then 3 else 0, ?_, ?_, ?_, ?_, ?_⟩, ?_, ?_⟩
  · kernel_rfl
  · kernel_rfl
  · kernel_rfl
  · kernel_rfl
  · kernel_rfl
  · rfl
  · decide
theorem fn15 : Is15 Try.prog sF sT := by
  refine ⟨⟨Try.prog.funcs[sF 15]?.getD default, (Try.prog.funcs[sF 15]?.getD default).body.getD .skip, fun d => 0, ?_, ?_, ?_, ?_, ?_⟩, ?_, ?_⟩
  · kernel_rfl
  · kernel_rfl
  · kernel_rfl
  · kernel_rfl
  · kernel_rfl
  · rfl
  · decide
theorem fn16 : Is16 Try.prog sF sT := by
  refine ⟨⟨Try.prog.funcs[sF 16]?.getD default, (Try.prog.funcs[sF 16]?.getD default).body.getD .skip, fun d => 0, ?_, ?_, ?_, ?_, ?_⟩, ?_, ?_⟩
  · kernel_rfl
  · kernel_rfl
  · kernel_rfl
  · kernel_rfl
  · kernel_rfl
  · rfl
  · decide
theorem fn19 : Is19 Try.prog sF sT := by
  refine ⟨⟨Try.prog.funcs[sF 19]?.getD default, (Try.prog.funcs[sF 19]?.getD default).body.getD .skip, fun d => 0, ?_, ?_, ?_, ?_, ?_⟩, ?_, ?_⟩
  · kernel_rfl
  · kernel_rfl
  · kernel_rfl
  · kernel_rfl
  · kernel_rfl
  · rfl
  · decide
end Go.Ab
