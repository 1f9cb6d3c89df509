/- The statement 'ParseNests': the function returns true and its arguments read as before, at every input. No further condition. -/
import Derived.Test.YtgleakjbgpmonaaSea
namespace Go.Proofs.Ytgleakjbgpmonaa
open Go.ChangeShapes Go.WideShapes Go.ChangeAt Go.RowKit Go.Ab
set_option linter.unusedVariables false

theorem main41 (xs : List V) (h : ArgsT Try.prog [3] xs) (hi : V.imms xs = true) : PTr Try.prog 5 xs (.bool true) := by
  obtain ⟨x, r, rfl, hx, rfl⟩ := h
  obtain ⟨n, rfl, _, _⟩ := arg_int u3 hx
  exact law41 fn41 p4 rps n

set_option maxRecDepth 100000 in
theorem lifted41 (os : Os) (started : os.Started) (H : Type) (enc : TypeId × Value → H) :
    ReturnsInHanded {} Try.checked os 5 .any (Rows.parseNestsSpec.pre6 enc Try.prog Try.f5 Rows.parseNestsRow.domain false) (Rows.parseNestsSpec.post enc Try.prog Try.f5 false true false false) := by
  refine returnsInHanded_of_change_shaped (C := Try.checked) own started (by kernel_rfl) Try.func5
    (ChangeSpec.witness6 (enc := enc) (C := Try.checked) false ⟨#[], #[.int .i64 0], []⟩ 8 (by kernel_rfl) (by kernel_rfl) (by kernel_rfl) (by kernel_rfl)) ?_
  intro W base args ds gs before hval hW _ _ hsh _
  exact law_contract (s := Rows.parseNestsSpec) (rt := 4) (S := tset) (ts := [3]) (B := dbulkAll (ds ++ gs)) laid closed (by kernel_rfl) (by decide) (by decide +kernel) (by kernel_rfl) (by kernel_rfl) rfl
    (fun ds hd => by match ds, hd with | [d0], _ => rfl) (fun xs a _ c => main41 xs a c) W base args ds gs before hval hW (Nat.le_refl _) hsh

theorem proved41 : Rows.ParseNestsSaid :=
  OpenClaim.holds_of_wide 5 Try.f5 rfl rfl rfl rfl rfl rfl rfl ⟨rfl, rfl, rfl, rfl, rfl⟩ rfl rfl rfl rfl rfl (by kernel_rfl) Try.func5 (by kernel_rfl)
    (of_decide_eq_true (by kernel_rfl)) (by unfold Func.isWrapper; first | (rw [if_pos (by decide +kernel)]; kernel_rfl) | (rw [if_neg (by decide +kernel)]; exact ⟨rfl, rfl⟩))
    (fun os started H enc _ => lifted41 os started H enc)
end Go.Proofs.Ytgleakjbgpmonaa
