/- The function's contract, at all arguments and worlds of the statement. No condition. -/
import Derived.Test.YtikmbicdjpkipaaGreatDoorSea
namespace Go.Proofs.YtikmbicdjpkipaaGreatDoor
open Go.ChangeShapes Go.WideShapes Go.ChangeAt Go.RowKit Go.Ab
set_option linter.unusedVariables false

theorem main302 (xs : List V) (h : ArgsT Tryz.prog [30, 30, 3, 9] xs) (hi : V.imms xs = true) : PTr Tryz.prog 6 xs (.bool true) := by
  obtain ⟨x, r, rfl, hx, h2⟩ := h
  obtain ⟨y, r, rfl, hy, h3⟩ := h2
  obtain ⟨z, r, rfl, hz, h4⟩ := h3
  obtain ⟨q, r, rfl, hq, rfl⟩ := h4
  obtain ⟨a, rfl⟩ := arg_intsL ul ui ci hx
  obtain ⟨b, rfl⟩ := arg_intsL ul ui ci hy
  obtain ⟨m, rfl, _⟩ := arg_int ui hz
  obtain ⟨s, rfl⟩ := arg_str us hq
  exact denied a b m s

set_option maxRecDepth 100000 in
theorem lifted302 (os : Os) (started : os.Started) (H : Type) (enc : TypeId × Value → H) :
    ReturnsInHanded {} Tryz.checked os 6 .any (fun w args => (Rows.editDeniedSpec.pre enc Tryz.prog Tryz.f6 [] false w args ∧ laidMetH Tryz.prog Rows.editDeniedRow.laid w) ∧ sizedMet enc Tryz.prog Tryz.f6 (OpenSpec.ofChange Rows.editDeniedSpec) false w args)
      (Rows.editDeniedSpec.post enc Tryz.prog Tryz.f6 false true false false) := by
  refine laid_callsX (C := Tryz.checked) (X := fun w => laidMetH Tryz.prog Rows.editDeniedRow.laid w) own started (by kernel_rfl) Tryz.func6
    (ChangeSpec.witness_shaped (enc := enc) (C := Tryz.checked) (os := os) (X := fun w _ => laidMetH Tryz.prog Rows.editDeniedRow.laid w) false (World.laidAll Tryz.prog os Rows.editDeniedRow.laid) #[.slice none 0 0, .slice none 0 0, .int .i64 0, .string ⟨#[]⟩] 8 (World.laidAll_os _ _ _)
      (World.shaped_of_ZipB (by kernel_rfl) (by kernel_rfl)) (by kernel_rfl) (by kernel_rfl) (by kernel_rfl) (by rw [MakeChecks.laidMetH_plain _ _ _ (by kernel_rfl)]; exact laidMet_laidAll _ (by kernel_rfl) (by kernel_rfl)))
    (fun w w' e h => by rw [MakeChecks.laidMetH_plain _ _ _ (by kernel_rfl)] at h ⊢; exact h.of_heap e.symm) ?_
  intro W base args ds gs before hval hW hsh hlaid
  have hpin : PinW W := by
    rw [MakeChecks.laidMetH_plain _ _ _ (by kernel_rfl)] at hlaid
    obtain ⟨ps, hv, _⟩ := hlaid
    exact pinw hv
  exact law_contract (s := Rows.editDeniedSpec) (rt := 4) (S := tset) (ts := [30, 30, 3, 9]) (B := dbulkAll (ds ++ gs)) laid closed (by kernel_rfl) (by decide) (by decide +kernel) (by kernel_rfl) (by kernel_rfl) rfl
    (fun ds hd => by match ds, hd with | [d0, d1, d2, d3], _ => rfl) (fun xs a _ c => main302 xs a c) W base args ds gs before hval hW (Nat.le_refl _) hsh hpin

end Go.Proofs.YtikmbicdjpkipaaGreatDoor
