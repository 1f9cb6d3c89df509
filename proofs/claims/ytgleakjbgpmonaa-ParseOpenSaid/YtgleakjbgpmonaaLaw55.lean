/- The statement 'ParseOpen': the function returns true and its arguments read as before, at every input. No further condition. -/
import Derived.Test.YtgleakjbgpmonaaSea
namespace Go.Proofs.Ytgleakjbgpmonaa
open Go.ChangeShapes Go.WideShapes Go.ChangeAt Go.RowKit Go.Ab
set_option linter.unusedVariables false

theorem main55 (xs : List V) (h : ArgsT Try.prog [9, 3] xs) (hi : V.imms xs = true) : PTr Try.prog 12 xs (.bool true) := by
  obtain ⟨x, r, rfl, hx, y, r2, rfl, hy, rfl⟩ := h
  obtain ⟨s, rfl⟩ := arg_str u9 hx
  obtain ⟨n, rfl, _, _⟩ := arg_int u3 hy
  exact law55 fn55 p4 anyc s n

set_option maxRecDepth 100000 in
theorem lifted55 (os : Os) (started : os.Started) (H : Type) (enc : TypeId × Value → H) :
    ReturnsInHanded {} Try.checked os 12 .any (Rows.parseOpenSpec.pre6 enc Try.prog Try.f12 Rows.parseOpenRow.domain false) (Rows.parseOpenSpec.post enc Try.prog Try.f12 false true false false) := by
  refine returnsInHanded_of_change_shaped (C := Try.checked) own started (by kernel_rfl) Try.func12
    (ChangeSpec.witness6 (enc := enc) (C := Try.checked) false ⟨#[], #[.string ⟨#[]⟩, .int .i64 0], []⟩ 8 (by kernel_rfl) (by kernel_rfl) (by kernel_rfl) (by kernel_rfl)) ?_
  intro W base args ds gs before hval hW _ _ hsh _
  exact law_contract (s := Rows.parseOpenSpec) (rt := 4) (S := tset) (ts := [9, 3]) (B := dbulkAll (ds ++ gs)) laid closed (by kernel_rfl) (by decide) (by decide +kernel) (by kernel_rfl) (by kernel_rfl) rfl
    (fun ds hd => by match ds, hd with | [d0, d1], _ => rfl) (fun xs a _ c => main55 xs a c) W base args ds gs before hval hW (Nat.le_refl _) hsh

theorem proved55 : Rows.ParseOpenSaid :=
  OpenClaim.holds_of_wide 12 Try.f12 rfl rfl rfl rfl rfl rfl rfl ⟨rfl, rfl, rfl, rfl, rfl⟩ rfl rfl rfl rfl rfl (by kernel_rfl) Try.func12 (by kernel_rfl)
    (of_decide_eq_true (by kernel_rfl)) (by unfold Func.isWrapper; first | (rw [if_pos (by decide +kernel)]; kernel_rfl) | (rw [if_neg (by decide +kernel)]; exact ⟨rfl, rfl⟩))
    (fun os started H enc _ => lifted55 os started H enc)
end Go.Proofs.Ytgleakjbgpmonaa
