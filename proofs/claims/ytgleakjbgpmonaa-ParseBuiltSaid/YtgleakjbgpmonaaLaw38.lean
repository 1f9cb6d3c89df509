/- The statement 'ParseBuilt': the function returns true and its arguments read as before, at every input. No further condition. -/
import Derived.Test.YtgleakjbgpmonaaSea
namespace Go.Proofs.Ytgleakjbgpmonaa
open Go.ChangeShapes Go.WideShapes Go.ChangeAt Go.RowKit Go.Ab
set_option linter.unusedVariables false

theorem main38 (xs : List V) (h : ArgsT Try.prog [29] xs) (hi : V.imms xs = true) : PTr Try.prog 4 xs (.bool true) := by
  obtain ⟨x, r, rfl, hx, rfl⟩ := h
  obtain ⟨es, rfl, hes⟩ := arg_ints u29 u3 c3 hx
  exact law38 fn38 p4 rc tc fn39 es (by simpa [V.imms, V.imm] using hi) hes

set_option maxRecDepth 100000 in
theorem lifted38 (os : Os) (started : os.Started) (H : Type) (enc : TypeId × Value → H) :
    ReturnsInHanded {} Try.checked os 4 .any (Rows.parseBuiltSpec.pre6 enc Try.prog Try.f4 Rows.parseBuiltRow.domain false) (Rows.parseBuiltSpec.post enc Try.prog Try.f4 false true false false) := by
  refine returnsInHanded_of_change_shaped (C := Try.checked) own started (by kernel_rfl) Try.func4
    (ChangeSpec.witness6 (enc := enc) (C := Try.checked) false ⟨#[], #[.slice none 0 0], []⟩ 8 (by kernel_rfl) (by kernel_rfl) (by kernel_rfl) (by kernel_rfl)) ?_
  intro W base args ds gs before hval hW _ _ hsh _
  exact law_contract (s := Rows.parseBuiltSpec) (rt := 4) (S := tset) (ts := [29]) (B := dbulkAll (ds ++ gs)) laid closed (by kernel_rfl) (by decide) (by decide +kernel) (by kernel_rfl) (by kernel_rfl) rfl
    (fun ds hd => by match ds, hd with | [d0], _ => rfl) (fun xs a _ c => main38 xs a c) W base args ds gs before hval hW (Nat.le_refl _) hsh

theorem proved38 : Rows.ParseBuiltSaid :=
  OpenClaim.holds_of_wide 4 Try.f4 rfl rfl rfl rfl rfl rfl rfl ⟨rfl, rfl, rfl, rfl, rfl⟩ rfl rfl rfl rfl rfl (by kernel_rfl) Try.func4 (by kernel_rfl)
    (of_decide_eq_true (by kernel_rfl)) (by unfold Func.isWrapper; first | (rw [if_pos (by decide +kernel)]; kernel_rfl) | (rw [if_neg (by decide +kernel)]; exact ⟨rfl, rfl⟩))
    (fun os started H enc _ => lifted38 os started H enc)
end Go.Proofs.Ytgleakjbgpmonaa
