/- The statement's row. No condition. -/
import Derived.Test.YtjakkhalapaofaaGreatDoorLaw302a
namespace Go.Proofs.YtjakkhalapaofaaGreatDoor
open Go.ChangeShapes Go.WideShapes Go.ChangeAt Go.RowKit Go.Ab
set_option linter.unusedVariables false

theorem facts302 : joinedFacts Tryz.pinned.checked.prog 4 Tryz.f4 Rows.editGuardsSpec Rows.editGuardsRow = true := by kernel_rfl
theorem row302 : Rows.EditGuardsSaid :=
  OpenClaim.holds_of_wide 4 Tryz.f4 rfl rfl rfl rfl rfl rfl rfl ⟨rfl, rfl, rfl, rfl, rfl⟩ rfl rfl rfl rfl rfl (by kernel_rfl) Tryz.func4 facts302
    (of_decide_eq_true (by kernel_rfl)) (by unfold Func.isWrapper; first | (rw [if_pos (by decide +kernel)]; kernel_rfl) | (rw [if_neg (by decide +kernel)]; exact ⟨rfl, rfl⟩))
    (fun os started H enc _ => lifted302 os started H enc)

end Go.Proofs.YtjakkhalapaofaaGreatDoor
