/- The function's contract, at all arguments and worlds of the statement. No condition. -/
import Derived.Test.YtikmbicdjpkipaaGreatDoorSea
namespace Go.Proofs.YtikmbicdjpkipaaGreatDoor
open Go.ChangeShapes Go.WideShapes Go.ChangeAt Go.RowKit Go.Ab
set_option linter.unusedVariables false

theorem main304 (xs : List V) (h : ArgsT Tryz.prog [27, 30, 9] xs) (hi : V.imms xs = true) : PTr Tryz.prog 5 xs (.bool true) := by
  obtain ⟨x, r, rfl, hx, h2⟩ := h
  obtain ⟨y, r, rfl, hy, h3⟩ := h2
  obtain ⟨z, r, rfl, hz, rfl⟩ := h3
  obtain ⟨s, rfl⟩ := arg_stt stys hx
  obtain ⟨b, rfl⟩ := arg_intsL ul ui ci hy
  obtain ⟨q, rfl⟩ := arg_str us hz
  exact denied s b q

set_option maxRecDepth 100000 in
theorem lifted304 (os : Os) (started : os.Started) (H : Type) (enc : TypeId × Value → H) :
    ReturnsInHanded {} Tryz.checked os 5 .any (fun w args => (Rows.editPoliciesSpec.pre enc Tryz.prog Tryz.f5 [] false w args ∧ laidMetH Tryz.prog Rows.editPoliciesRow.laid w) ∧ sizedMet enc Tryz.prog Tryz.f5 (OpenSpec.ofChange Rows.editPoliciesSpec) false w args)
      (Rows.editPoliciesSpec.post enc Tryz.prog Tryz.f5 false true false false) := by
  refine laid_callsX (C := Tryz.checked) (X := fun w => laidMetH Tryz.prog Rows.editPoliciesRow.laid w) own started (by kernel_rfl) Tryz.func5
    (ChangeSpec.witness_shaped (enc := enc) (C := Tryz.checked) (os := os) (X := fun w _ => laidMetH Tryz.prog Rows.editPoliciesRow.laid w) false (World.laidAll Tryz.prog os Rows.editPoliciesRow.laid) #[.agg #[.int .i64 0, .int .i64 0, .slice none 0 0, .slice none 0 0, .slice none 0 0, .int .i64 0, .slice none 0 0, .slice none 0 0], .slice none 0 0, .string ⟨#[]⟩] 8 (World.laidAll_os _ _ _)
      (World.shaped_of_ZipB (by kernel_rfl) (by kernel_rfl)) (by kernel_rfl) (by kernel_rfl) (by kernel_rfl) (by rw [MakeChecks.laidMetH_plain _ _ _ (by kernel_rfl)]; exact laidMet_laidAll _ (by kernel_rfl) (by kernel_rfl)))
    (fun w w' e h => by rw [MakeChecks.laidMetH_plain _ _ _ (by kernel_rfl)] at h ⊢; exact h.of_heap e.symm) ?_
  intro W base args ds gs before hval hW hsh hlaid
  have hpin : PinW W := by
    rw [MakeChecks.laidMetH_plain _ _ _ (by kernel_rfl)] at hlaid
    obtain ⟨ps, hv, _⟩ := hlaid
    exact pinw hv
  exact law_contract (s := Rows.editPoliciesSpec) (rt := 4) (S := tset) (ts := [27, 30, 9]) (B := dbulkAll (ds ++ gs)) laid closed (by kernel_rfl) (by decide) (by decide +kernel) (by kernel_rfl) (by kernel_rfl) rfl
    (fun ds hd => by match ds, hd with | [d0, d1, d2], _ => rfl) (fun xs a _ c => main304 xs a c) W base args ds gs before hval hW (Nat.le_refl _) hsh hpin

end Go.Proofs.YtikmbicdjpkipaaGreatDoor
