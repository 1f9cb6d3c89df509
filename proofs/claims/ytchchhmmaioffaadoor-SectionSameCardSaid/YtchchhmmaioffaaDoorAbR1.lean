/- Several texts of one kind, merged. No condition. -/
import Derived.Test.YtchchhmmaioffaaDoorAbP4
import Derived.Test.YtchchhmmaioffaaDoorAbK2
import Derived.Test.YtchchhmmaioffaaDoorAbK4
import Derived.KernelRfl
/- The reference's tokens. No condition. -/
namespace Go.Ab
set_option linter.unusedVariables false
set_option linter.unusedSimpArgs false

variable {P : Program} {F T : Nat → Nat}

end Go.Ab
/- Lowered code of the functions, by program. No condition. -/
namespace Go.Ab
set_option linter.unusedVariables false
end Go.Ab
/- The laws of the parser: what they share; ParseKeeps and ParseJoined. No condition. -/
namespace Go.Ab
set_option linter.unusedVariables false
set_option linter.unusedSimpArgs false

variable {P : Program} {F T : Nat → Nat}

theorem finF_bulk (st : List El) : bulks (finF st) ≤ pot st := by
  have h := flatN_pot (st.length - 1) st
  unfold finF
  cases hf : flatN (st.length - 1) st with
  | nil => simp [bulks]
  | cons e r =>
    rw [hf] at h
    simp only [pot, El.pot] at h
    simp only; omega
theorem parseF_bulk (s : List UInt8) : bulks (parseF s) ≤ 31 + 35 * s.length := by
  obtain ⟨g1, g2⟩ := scan_good s
  have h := (runF_inv (s := s) (scan s) (st := [root]) (fun t ht => (g1 t ht).wf) root_sv.inv).2
  have := finF_bulk (runF s (scan s) [root])
  have e : pot [root] ≤ 31 := by simp [pot, El.pot, root, bulks, bulkA]
  unfold parseF
  omega

end Go.Ab
