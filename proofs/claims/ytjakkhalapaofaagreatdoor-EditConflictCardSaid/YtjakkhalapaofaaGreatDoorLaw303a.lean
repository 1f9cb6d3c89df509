/- The function's contract, at all arguments and worlds of the statement. No condition. -/
import Derived.Test.YtjakkhalapaofaaGreatDoorSea
namespace Go.Proofs.YtjakkhalapaofaaGreatDoor
open Go.ChangeShapes Go.WideShapes Go.ChangeAt Go.RowKit Go.Ab
set_option linter.unusedVariables false

theorem main303 (xs : List V) (h : ArgsT Tryz.prog [22, 22, 22] xs) (hi : V.imms xs = true) : PTr Tryz.prog 3 xs (.bool true) := by
  obtain ⟨x, r, rfl, hx, h2⟩ := h
  obtain ⟨y, r, rfl, hy, h3⟩ := h2
  obtain ⟨z, r, rfl, hz, rfl⟩ := h3
  obtain ⟨a, rfl⟩ := arg_intsL ul ui ci hx
  obtain ⟨b, rfl⟩ := arg_intsL ul ui ci hy
  obtain ⟨c, rfl⟩ := arg_intsL ul ui ci hz
  exact conflict a b c

set_option maxRecDepth 100000 in
theorem lifted303 (os : Os) (started : os.Started) (H : Type) (enc : TypeId × Value → H) :
    ReturnsInHanded {} Tryz.checked os 3 .any (fun w args => (Rows.editConflictSpec.pre enc Tryz.prog Tryz.f3 [] false w args ∧ laidMetH Tryz.prog Rows.editConflictRow.laid w) ∧ sizedMet enc Tryz.prog Tryz.f3 (OpenSpec.ofChange Rows.editConflictSpec) false w args)
      (Rows.editConflictSpec.post enc Tryz.prog Tryz.f3 false true false false) := by
  refine laid_callsX (C := Tryz.checked) (X := fun w => laidMetH Tryz.prog Rows.editConflictRow.laid w) own started (by kernel_rfl) Tryz.func3
    (ChangeSpec.witness_shaped (enc := enc) (C := Tryz.checked) (os := os) (X := fun w _ => laidMetH Tryz.prog Rows.editConflictRow.laid w) false (World.laidAll Tryz.prog os Rows.editConflictRow.laid) #[.slice none 0 0, .slice none 0 0, .slice none 0 0] 8 (World.laidAll_os _ _ _)
      (World.shaped_of_ZipB (by kernel_rfl) (by kernel_rfl)) (by kernel_rfl) (by kernel_rfl) (by kernel_rfl) (by rw [MakeChecks.laidMetH_plain _ _ _ (by kernel_rfl)]; exact laidMet_laidAll _ (by kernel_rfl) (by kernel_rfl)))
    (fun w w' e h => by rw [MakeChecks.laidMetH_plain _ _ _ (by kernel_rfl)] at h ⊢; exact h.of_heap e.symm) ?_
  intro W base args ds gs before hval hW hsh hlaid
  have hpin : PinW W := by
    rw [MakeChecks.laidMetH_plain _ _ _ (by kernel_rfl)] at hlaid
    obtain ⟨ps, hv, _⟩ := hlaid
    exact pinw hv
  exact law_contract (s := Rows.editConflictSpec) (rt := 4) (S := tset) (ts := [22, 22, 22]) (B := dbulkAll (ds ++ gs)) laid closed (by kernel_rfl) (by decide) (by decide +kernel) (by kernel_rfl) (by kernel_rfl) rfl
    (fun ds hd => by match ds, hd with | [d0, d1, d2], _ => rfl) (fun xs a _ c => main303 xs a c) W base args ds gs before hval hW (Nat.le_refl _) hsh hpin

end Go.Proofs.YtjakkhalapaofaaGreatDoor
