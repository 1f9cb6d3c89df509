/- The statement's row. No condition. -/
import Derived.Test.YtjakkhalapaofaaGreatDoorLaw303a
namespace Go.Proofs.YtjakkhalapaofaaGreatDoor
open Go.ChangeShapes Go.WideShapes Go.ChangeAt Go.RowKit Go.Ab
set_option linter.unusedVariables false

theorem facts303 : joinedFacts Tryz.pinned.checked.prog 3 Tryz.f3 Rows.editConflictSpec Rows.editConflictRow = true := by kernel_rfl
theorem row303 : Rows.EditConflictSaid :=
  OpenClaim.holds_of_wide 3 Tryz.f3 rfl rfl rfl rfl rfl rfl rfl ⟨rfl, rfl, rfl, rfl, rfl⟩ rfl rfl rfl rfl rfl (by kernel_rfl) Tryz.func3 facts303
    (of_decide_eq_true (by kernel_rfl)) (by unfold Func.isWrapper; first | (rw [if_pos (by decide +kernel)]; kernel_rfl) | (rw [if_neg (by decide +kernel)]; exact ⟨rfl, rfl⟩))
    (fun os started H enc _ => lifted303 os started H enc)

end Go.Proofs.YtjakkhalapaofaaGreatDoor
