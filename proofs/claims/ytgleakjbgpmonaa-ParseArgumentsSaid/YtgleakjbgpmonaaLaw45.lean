/- The statement 'ParseArguments': the function returns true and its arguments read as before, at every input. No further condition. -/
import Derived.Test.YtgleakjbgpmonaaSea
namespace Go.Proofs.Ytgleakjbgpmonaa
open Go.ChangeShapes Go.WideShapes Go.ChangeAt Go.RowKit Go.Ab
set_option linter.unusedVariables false

theorem main45 (xs : List V) (h : ArgsT Try.prog [29] xs) (hi : V.imms xs = true) : PTr Try.prog 7 xs (.bool true) := by
  obtain ⟨x, r, rfl, hx, rfl⟩ := h
  obtain ⟨es, rfl, hes⟩ := arg_ints u29 u3 c3 hx
  exact law45 fn45 p4 rc tc fn39 es (by simpa [V.imms, V.imm] using hi) hes

set_option maxRecDepth 100000 in
theorem lifted45 (os : Os) (started : os.Started) (H : Type) (enc : TypeId × Value → H) :
    ReturnsInHanded {} Try.checked os 7 .any (Rows.parseArgumentsSpec.pre6 enc Try.prog Try.f7 Rows.parseArgumentsRow.domain false) (Rows.parseArgumentsSpec.post enc Try.prog Try.f7 false true false false) := by
  refine returnsInHanded_of_change_shaped (C := Try.checked) own started (by kernel_rfl) Try.func7
    (ChangeSpec.witness6 (enc := enc) (C := Try.checked) false ⟨#[], #[.slice none 0 0], []⟩ 8 (by kernel_rfl) (by kernel_rfl) (by kernel_rfl) (by kernel_rfl)) ?_
  intro W base args ds gs before hval hW _ _ hsh _
  exact law_contract (s := Rows.parseArgumentsSpec) (rt := 4) (S := tset) (ts := [29]) (B := dbulkAll (ds ++ gs)) laid closed (by kernel_rfl) (by decide) (by decide +kernel) (by kernel_rfl) (by kernel_rfl) rfl
    (fun ds hd => by match ds, hd with | [d0], _ => rfl) (fun xs a _ c => main45 xs a c) W base args ds gs before hval hW (Nat.le_refl _) hsh

theorem proved45 : Rows.ParseArgumentsSaid :=
  OpenClaim.holds_of_wide 7 Try.f7 rfl rfl rfl rfl rfl rfl rfl ⟨rfl, rfl, rfl, rfl, rfl⟩ rfl rfl rfl rfl rfl (by kernel_rfl) Try.func7 (by kernel_rfl)
    (of_decide_eq_true (by kernel_rfl)) (by unfold Func.isWrapper; first | (rw [if_pos (by decide +kernel)]; kernel_rfl) | (rw [if_neg (by decide +kernel)]; exact ⟨rfl, rfl⟩))
    (fun os started H enc _ => lifted45 os started H enc)
end Go.Proofs.Ytgleakjbgpmonaa
