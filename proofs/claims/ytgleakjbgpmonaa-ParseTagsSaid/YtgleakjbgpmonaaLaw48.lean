/- The statement 'ParseTags': the function returns true and its arguments read as before, at every input. No further condition. -/
import Derived.Test.YtgleakjbgpmonaaSea
namespace Go.Proofs.Ytgleakjbgpmonaa
open Go.ChangeShapes Go.WideShapes Go.ChangeAt Go.RowKit Go.Ab
set_option linter.unusedVariables false

theorem main48 (xs : List V) (h : ArgsT Try.prog [9, 3] xs) (hi : V.imms xs = true) : PTr Try.prog 8 xs (.bool true) := by
  obtain ⟨x, r, rfl, hx, y, r2, rfl, hy, rfl⟩ := h
  obtain ⟨s, rfl⟩ := arg_str u9 hx
  obtain ⟨n, rfl, _, _⟩ := arg_int u3 hy
  exact law48 fn48 p4 sp cnt s n

set_option maxRecDepth 100000 in
theorem lifted48 (os : Os) (started : os.Started) (H : Type) (enc : TypeId × Value → H) :
    ReturnsInHanded {} Try.checked os 8 .any (Rows.parseTagsSpec.pre6 enc Try.prog Try.f8 Rows.parseTagsRow.domain false) (Rows.parseTagsSpec.post enc Try.prog Try.f8 false true false false) := by
  refine returnsInHanded_of_change_shaped (C := Try.checked) own started (by kernel_rfl) Try.func8
    (ChangeSpec.witness6 (enc := enc) (C := Try.checked) false ⟨#[], #[.string ⟨#[]⟩, .int .i64 0], []⟩ 8 (by kernel_rfl) (by kernel_rfl) (by kernel_rfl) (by kernel_rfl)) ?_
  intro W base args ds gs before hval hW _ _ hsh _
  exact law_contract (s := Rows.parseTagsSpec) (rt := 4) (S := tset) (ts := [9, 3]) (B := dbulkAll (ds ++ gs)) laid closed (by kernel_rfl) (by decide) (by decide +kernel) (by kernel_rfl) (by kernel_rfl) rfl
    (fun ds hd => by match ds, hd with | [d0, d1], _ => rfl) (fun xs a _ c => main48 xs a c) W base args ds gs before hval hW (Nat.le_refl _) hsh

theorem proved48 : Rows.ParseTagsSaid :=
  OpenClaim.holds_of_wide 8 Try.f8 rfl rfl rfl rfl rfl rfl rfl ⟨rfl, rfl, rfl, rfl, rfl⟩ rfl rfl rfl rfl rfl (by kernel_rfl) Try.func8 (by kernel_rfl)
    (of_decide_eq_true (by kernel_rfl)) (by unfold Func.isWrapper; first | (rw [if_pos (by decide +kernel)]; kernel_rfl) | (rw [if_neg (by decide +kernel)]; exact ⟨rfl, rfl⟩))
    (fun os started H enc _ => lifted48 os started H enc)
end Go.Proofs.Ytgleakjbgpmonaa
