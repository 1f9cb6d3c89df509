/- The function's contract, at all arguments and worlds of the statement. No condition. -/
import Derived.Test.YtikmbicdjpkipaaGreatDoorSea
namespace Go.Proofs.YtikmbicdjpkipaaGreatDoor
open Go.ChangeShapes Go.WideShapes Go.ChangeAt Go.RowKit Go.Ab
set_option linter.unusedVariables false

theorem main305 (xs : List V) (h : ArgsT Tryz.prog [27, 9, 29, 30, 3, 3] xs) (hi : V.imms xs = true) : PTr Tryz.prog 3 xs (.bool true) := by
  obtain ⟨x, r, rfl, hx, h2⟩ := h
  obtain ⟨y, r, rfl, hy, h3⟩ := h2
  obtain ⟨z, r, rfl, hz, h4⟩ := h3
  obtain ⟨p, r, rfl, hp, h5⟩ := h4
  obtain ⟨q, r, rfl, hq, h6⟩ := h5
  obtain ⟨e, r, rfl, he, rfl⟩ := h6
  obtain ⟨s, rfl⟩ := arg_stt stys hx
  obtain ⟨u, rfl⟩ := arg_str us hy
  obtain ⟨t, rfl⟩ := arg_ttl stys (by kernel_rfl) hz
  obtain ⟨l, rfl⟩ := arg_intsL ul ui ci hp
  obtain ⟨m, rfl, _⟩ := arg_int ui hq
  obtain ⟨n, rfl, _⟩ := arg_int ui he
  exact denied s u t l m n

set_option maxRecDepth 100000 in
theorem lifted305 (os : Os) (started : os.Started) (H : Type) (enc : TypeId × Value → H) :
    ReturnsInHanded {} Tryz.checked os 3 .any (fun w args => (Rows.historyRevisionsSpec.pre enc Tryz.prog Tryz.f3 [] false w args ∧ laidMetH Tryz.prog Rows.historyRevisionsRow.laid w) ∧ sizedMet enc Tryz.prog Tryz.f3 (OpenSpec.ofChange Rows.historyRevisionsSpec) false w args)
      (Rows.historyRevisionsSpec.post enc Tryz.prog Tryz.f3 false true false false) := by
  refine laid_callsX (C := Tryz.checked) (X := fun w => laidMetH Tryz.prog Rows.historyRevisionsRow.laid w) own started (by kernel_rfl) Tryz.func3
    (ChangeSpec.witness_shaped (enc := enc) (C := Tryz.checked) (os := os) (X := fun w _ => laidMetH Tryz.prog Rows.historyRevisionsRow.laid w) false (World.laidAll Tryz.prog os Rows.historyRevisionsRow.laid) #[.agg #[.int .i64 0, .int .i64 0, .slice none 0 0, .slice none 0 0, .slice none 0 0, .int .i64 0, .slice none 0 0, .slice none 0 0], .string ⟨#[]⟩, .agg #[.int .i64 0, .string ⟨#[]⟩], .slice none 0 0, .int .i64 0, .int .i64 0] 8 (World.laidAll_os _ _ _)
      (World.shaped_of_ZipB (by kernel_rfl) (by kernel_rfl)) (by kernel_rfl) (by kernel_rfl) (by kernel_rfl) (by rw [MakeChecks.laidMetH_plain _ _ _ (by kernel_rfl)]; exact laidMet_laidAll _ (by kernel_rfl) (by kernel_rfl)))
    (fun w w' e h => by rw [MakeChecks.laidMetH_plain _ _ _ (by kernel_rfl)] at h ⊢; exact h.of_heap e.symm) ?_
  intro W base args ds gs before hval hW hsh hlaid
  have hpin : PinW W := by
    rw [MakeChecks.laidMetH_plain _ _ _ (by kernel_rfl)] at hlaid
    obtain ⟨ps, hv, _⟩ := hlaid
    exact pinw hv
  exact law_contract (s := Rows.historyRevisionsSpec) (rt := 4) (S := tset) (ts := [27, 9, 29, 30, 3, 3]) (B := dbulkAll (ds ++ gs)) laid closed (by kernel_rfl) (by decide) (by decide +kernel) (by kernel_rfl) (by kernel_rfl) rfl
    (fun ds hd => by match ds, hd with | [d0, d1, d2, d3, d4, d5], _ => rfl) (fun xs a _ c => main305 xs a c) W base args ds gs before hval hW (Nat.le_refl _) hsh hpin

end Go.Proofs.YtikmbicdjpkipaaGreatDoor
