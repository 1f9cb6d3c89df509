/- The statement 'ParseText': the function returns true and its arguments read as before, at every input. No further condition. -/
import Derived.Test.YtgleakjbgpmonaaSea
namespace Go.Proofs.Ytgleakjbgpmonaa
open Go.ChangeShapes Go.WideShapes Go.ChangeAt Go.RowKit Go.Ab
set_option linter.unusedVariables false

theorem main53 (xs : List V) (h : ArgsT Try.prog [9] xs) (hi : V.imms xs = true) : PTr Try.prog 11 xs (.bool true) := by
  obtain ⟨x, r, rfl, hx, rfl⟩ := h
  obtain ⟨s, rfl⟩ := arg_str u9 hx
  exact law53 fn53 p4 anyc s

set_option maxRecDepth 100000 in
theorem lifted53 (os : Os) (started : os.Started) (H : Type) (enc : TypeId × Value → H) :
    ReturnsInHanded {} Try.checked os 11 .any (Rows.parseTextSpec.pre6 enc Try.prog Try.f11 Rows.parseTextRow.domain false) (Rows.parseTextSpec.post enc Try.prog Try.f11 false true false false) := by
  refine returnsInHanded_of_change_shaped (C := Try.checked) own started (by kernel_rfl) Try.func11
    (ChangeSpec.witness6 (enc := enc) (C := Try.checked) false ⟨#[], #[.string ⟨#[]⟩], []⟩ 8 (by kernel_rfl) (by kernel_rfl) (by kernel_rfl) (by kernel_rfl)) ?_
  intro W base args ds gs before hval hW _ _ hsh _
  exact law_contract (s := Rows.parseTextSpec) (rt := 4) (S := tset) (ts := [9]) (B := dbulkAll (ds ++ gs)) laid closed (by kernel_rfl) (by decide) (by decide +kernel) (by kernel_rfl) (by kernel_rfl) rfl
    (fun ds hd => by match ds, hd with | [d0], _ => rfl) (fun xs a _ c => main53 xs a c) W base args ds gs before hval hW (Nat.le_refl _) hsh

theorem proved53 : Rows.ParseTextSaid :=
  OpenClaim.holds_of_wide 11 Try.f11 rfl rfl rfl rfl rfl rfl rfl ⟨rfl, rfl, rfl, rfl, rfl⟩ rfl rfl rfl rfl rfl (by kernel_rfl) Try.func11 (by kernel_rfl)
    (of_decide_eq_true (by kernel_rfl)) (by unfold Func.isWrapper; first | (rw [if_pos (by decide +kernel)]; kernel_rfl) | (rw [if_neg (by decide +kernel)]; exact ⟨rfl, rfl⟩))
    (fun os started H enc _ => lifted53 os started H enc)
end Go.Proofs.Ytgleakjbgpmonaa
