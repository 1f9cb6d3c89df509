/- The statement's row. No condition. -/
import Derived.Test.YtdnhjbdnebokiaaGreatDoorLaw304a
namespace Go.Proofs.YtdnhjbdnebokiaaGreatDoor
open Go.ChangeShapes Go.WideShapes Go.ChangeAt Go.RowKit Go.Ab
set_option linter.unusedVariables false

theorem facts304 : joinedFacts Tryz.pinned.checked.prog 3 Tryz.f3 Rows.editSectionsSpec Rows.editSectionsRow = true := by kernel_rfl
theorem row304 : Rows.EditSectionsSaid :=
  OpenClaim.holds_of_wide 3 Tryz.f3 rfl rfl rfl rfl rfl rfl rfl ⟨rfl, rfl, rfl, rfl, rfl⟩ rfl rfl rfl rfl rfl (by kernel_rfl) Tryz.func3 facts304
    (of_decide_eq_true (by kernel_rfl)) (by unfold Func.isWrapper; first | (rw [if_pos (by decide +kernel)]; kernel_rfl) | (rw [if_neg (by decide +kernel)]; exact ⟨rfl, rfl⟩))
    (fun os started H enc _ => lifted304 os started H enc)

end Go.Proofs.YtdnhjbdnebokiaaGreatDoor
