/- The statement's row. No condition. -/
import Derived.Test.YtikmbicdjpkipaaGreatDoorLaw303a
namespace Go.Proofs.YtikmbicdjpkipaaGreatDoor
open Go.ChangeShapes Go.WideShapes Go.ChangeAt Go.RowKit Go.Ab
set_option linter.unusedVariables false

theorem facts303 : joinedFacts Tryz.pinned.checked.prog 4 Tryz.f4 Rows.historyDeniedSpec Rows.historyDeniedRow = true := by kernel_rfl
theorem row303 : Rows.HistoryDeniedSaid :=
  OpenClaim.holds_of_wide 4 Tryz.f4 rfl rfl rfl rfl rfl rfl rfl ⟨rfl, rfl, rfl, rfl, rfl⟩ rfl rfl rfl rfl rfl (by kernel_rfl) Tryz.func4 facts303
    (of_decide_eq_true (by kernel_rfl)) (by unfold Func.isWrapper; first | (rw [if_pos (by decide +kernel)]; kernel_rfl) | (rw [if_neg (by decide +kernel)]; exact ⟨rfl, rfl⟩))
    (fun os started H enc _ => lifted303 os started H enc)

end Go.Proofs.YtikmbicdjpkipaaGreatDoor
