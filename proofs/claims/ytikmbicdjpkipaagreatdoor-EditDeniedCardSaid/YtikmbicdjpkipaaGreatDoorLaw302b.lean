/- The statement's row. No condition. -/
import Derived.Test.YtikmbicdjpkipaaGreatDoorLaw302a
namespace Go.Proofs.YtikmbicdjpkipaaGreatDoor
open Go.ChangeShapes Go.WideShapes Go.ChangeAt Go.RowKit Go.Ab
set_option linter.unusedVariables false

theorem facts302 : joinedFacts Tryz.pinned.checked.prog 6 Tryz.f6 Rows.editDeniedSpec Rows.editDeniedRow = true := by kernel_rfl
theorem row302 : Rows.EditDeniedSaid :=
  OpenClaim.holds_of_wide 6 Tryz.f6 rfl rfl rfl rfl rfl rfl rfl ⟨rfl, rfl, rfl, rfl, rfl⟩ rfl rfl rfl rfl rfl (by kernel_rfl) Tryz.func6 facts302
    (of_decide_eq_true (by kernel_rfl)) (by unfold Func.isWrapper; first | (rw [if_pos (by decide +kernel)]; kernel_rfl) | (rw [if_neg (by decide +kernel)]; exact ⟨rfl, rfl⟩))
    (fun os started H enc _ => lifted302 os started H enc)

end Go.Proofs.YtikmbicdjpkipaaGreatDoor
