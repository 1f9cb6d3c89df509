/- The statement's row. No condition. -/
import Derived.Test.YtikmbicdjpkipaaGreatDoorLaw305a
import Derived.Test.YtikmbicdjpkipaaGreatDoorLaw305f
namespace Go.Proofs.YtikmbicdjpkipaaGreatDoor
open Go.ChangeShapes Go.WideShapes Go.ChangeAt Go.RowKit Go.Ab
set_option linter.unusedVariables false

theorem row305 : Rows.HistoryRevisionsSaid :=
  OpenClaim.holds_of_wide 3 Tryz.f3 rfl rfl rfl rfl rfl rfl rfl ⟨rfl, rfl, rfl, rfl, rfl⟩ rfl rfl rfl rfl rfl (by kernel_rfl) Tryz.func3 facts305
    (of_decide_eq_true (by kernel_rfl)) (by unfold Func.isWrapper; first | (rw [if_pos (by decide +kernel)]; kernel_rfl) | (rw [if_neg (by decide +kernel)]; exact ⟨rfl, rfl⟩))
    (fun os started H enc _ => lifted305 os started H enc)

end Go.Proofs.YtikmbicdjpkipaaGreatDoor
