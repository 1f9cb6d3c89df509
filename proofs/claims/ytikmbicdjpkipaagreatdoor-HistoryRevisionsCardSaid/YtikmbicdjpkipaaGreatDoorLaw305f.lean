/- What the row's facts are at the program, by evaluation. No condition. -/
import Derived.Test.YtikmbicdjpkipaaGreatDoorRows
import Derived.JoinedOf
namespace Go.Proofs.YtikmbicdjpkipaaGreatDoor
open Go.ChangeShapes Go.WideShapes
theorem band305 {a b : Bool} (h : a = true) (k : b = true) : (a && b) = true := by rw [h, k]; rfl
set_option maxHeartbeats 40000000 in
theorem facts305 : joinedFacts Tryz.pinned.checked.prog 3 Tryz.f3 Rows.historyRevisionsSpec Rows.historyRevisionsRow = true := by
  unfold joinedFacts
  repeat' (with_reducible apply band305)
  all_goals (as_aux_lemma => kernel_rfl)

end Go.Proofs.YtikmbicdjpkipaaGreatDoor
