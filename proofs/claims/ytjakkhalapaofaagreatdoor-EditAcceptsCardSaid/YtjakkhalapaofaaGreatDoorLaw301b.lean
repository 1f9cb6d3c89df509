/- The statement's row. No condition. -/
import Derived.Test.YtjakkhalapaofaaGreatDoorLaw301a
namespace Go.Proofs.YtjakkhalapaofaaGreatDoor
open Go.ChangeShapes Go.WideShapes Go.ChangeAt Go.RowKit Go.Ab
set_option linter.unusedVariables false

theorem facts301 : joinedFacts Tryz.pinned.checked.prog 5 Tryz.f5 Rows.editAcceptsSpec Rows.editAcceptsRow = true := by kernel_rfl
theorem row301 : Rows.EditAcceptsSaid :=
  OpenClaim.holds_of_wide 5 Tryz.f5 rfl rfl rfl rfl rfl rfl rfl ⟨rfl, rfl, rfl, rfl, rfl⟩ rfl rfl rfl rfl rfl (by kernel_rfl) Tryz.func5 facts301
    (of_decide_eq_true (by kernel_rfl)) (by unfold Func.isWrapper; first | (rw [if_pos (by decide +kernel)]; kernel_rfl) | (rw [if_neg (by decide +kernel)]; exact ⟨rfl, rfl⟩))
    (fun os started H enc _ => lifted301 os started H enc)

end Go.Proofs.YtjakkhalapaofaaGreatDoor
