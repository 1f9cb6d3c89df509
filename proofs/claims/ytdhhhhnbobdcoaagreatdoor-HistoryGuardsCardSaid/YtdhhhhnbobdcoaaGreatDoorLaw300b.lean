/- The statement's row. No condition. -/
import Derived.Test.YtdhhhhnbobdcoaaGreatDoorLaw300a
namespace Go.Proofs.YtdhhhhnbobdcoaaGreatDoor
open Go.ChangeShapes Go.WideShapes Go.ChangeAt Go.RowKit Go.Ab
set_option linter.unusedVariables false

theorem facts300 : joinedFacts Tryz.pinned.checked.prog 4 Tryz.f4 Rows.historyGuardsSpec Rows.historyGuardsRow = true := by kernel_rfl
theorem row300 : Rows.HistoryGuardsSaid :=
  OpenClaim.holds_of_wide 4 Tryz.f4 rfl rfl rfl rfl rfl rfl rfl ⟨rfl, rfl, rfl, rfl, rfl⟩ rfl rfl rfl rfl rfl (by kernel_rfl) Tryz.func4 facts300
    (of_decide_eq_true (by kernel_rfl)) (by unfold Func.isWrapper; first | (rw [if_pos (by decide +kernel)]; kernel_rfl) | (rw [if_neg (by decide +kernel)]; exact ⟨rfl, rfl⟩))
    (fun os started H enc _ => lifted300 os started H enc)

end Go.Proofs.YtdhhhhnbobdcoaaGreatDoor
