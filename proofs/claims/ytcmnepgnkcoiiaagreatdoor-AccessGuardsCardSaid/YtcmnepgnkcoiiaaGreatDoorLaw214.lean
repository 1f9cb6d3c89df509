/- The statement 'AccessGuards', as its tied card says it: the function returns true and its arguments read as before, at every input; the two tables of package utf8 read as the program's text lays them. No further condition. -/
import Derived.Test.YtcmnepgnkcoiiaaGreatDoorSea
import Derived.Test.YtcmnepgnkcoiiaaGreatDoorCards
import Derived.Test.YtcmnepgnkcoiiaaGreatDoorTie
namespace Go.Proofs.YtcmnepgnkcoiiaaGreatDoor
open Go.ChangeShapes Go.WideShapes Go.ChangeAt Go.RowKit Go.Ab
set_option linter.unusedVariables false

theorem main214 (xs : List V) (h : ArgsT Tryz.prog [27] xs) (hi : V.imms xs = true) : PTr Tryz.prog 10 xs (.bool true) := by
  obtain ⟨x, r, rfl, hx, rfl⟩ := h
  obtain ⟨es, rfl, hes⟩ := arg_ints u27 u3 c3 hx
  exact law214 fn214 tc3 tc2 fn39 chgc rgr kn es (by simpa [V.imms, V.imm] using hi) hes

set_option maxRecDepth 100000 in
theorem lifted214 (os : Os) (started : os.Started) (H : Type) (enc : TypeId × Value → H) :
    ReturnsInHanded {} Tryz.checked os 10 .any (fun w args => (Rows.accessGuardsSpec.pre enc Tryz.prog Tryz.f10 [] false w args ∧ laidMetH Tryz.prog Rows.accessGuardsRow.laid w) ∧ sizedMet enc Tryz.prog Tryz.f10 (OpenSpec.ofChange Rows.accessGuardsSpec) false w args)
      (Rows.accessGuardsSpec.post enc Tryz.prog Tryz.f10 false true false false) := by
  refine laid_calls (C := Tryz.checked) (X := fun w => laidMetH Tryz.prog Rows.accessGuardsRow.laid w) own started (by kernel_rfl) Tryz.func10
    (ChangeSpec.witness_shaped (enc := enc) (C := Tryz.checked) (os := os) (X := fun w _ => laidMetH Tryz.prog Rows.accessGuardsRow.laid w) false (World.laidAll Tryz.prog os Rows.accessGuardsRow.laid) #[.slice none 0 0] 8 (World.laidAll_os _ _ _)
      (World.shaped_of_ZipB (by kernel_rfl) (by kernel_rfl)) (by kernel_rfl) (by kernel_rfl) (by kernel_rfl) (by rw [MakeChecks.laidMetH_plain _ _ _ (by kernel_rfl)]; exact laidMet_laidAll _ (by kernel_rfl) (by kernel_rfl))) ?_
  intro W base args ds gs before hval hW hsh
  exact law_contract (s := Rows.accessGuardsSpec) (rt := 4) (S := tset) (ts := [27]) (B := dbulkAll (ds ++ gs)) laid closed (by kernel_rfl) (by decide) (by decide +kernel) (by kernel_rfl) (by kernel_rfl) rfl
    (fun ds hd => by match ds, hd with | [d0], _ => rfl) (fun xs a _ c => main214 xs a c) W base args ds gs before hval hW (Nat.le_refl _) hsh

theorem row214 : Rows.AccessGuardsSaid :=
  OpenClaim.holds_of_wide 10 Tryz.f10 rfl rfl rfl rfl rfl rfl rfl ⟨rfl, rfl, rfl, rfl, rfl⟩ rfl rfl rfl rfl rfl (by kernel_rfl) Tryz.func10 (by kernel_rfl)
    (of_decide_eq_true (by kernel_rfl)) (by unfold Func.isWrapper; first | (rw [if_pos (by decide +kernel)]; kernel_rfl) | (rw [if_neg (by decide +kernel)]; exact ⟨rfl, rfl⟩))
    (fun os started H enc _ => lifted214 os started H enc)

theorem proved214 : Rows.AccessGuardsCardSaid :=
  Claim7.holds_tied_plain_at .later [] [.data, .pinned] true (true, "ecc2c47b55c2b91b913aad01e5f4e4bc3f3a1142f19cff223f6df41f96a8f9c7") false
    row214 (fun _ h => by cases h) (by kernel_rfl) (fun _ h => by cases h) accessGuards_row_tie rfl ⟨rfl, rfl⟩ (by kernel_rfl) rfl
    (fun f fn hf hfn => by
      obtain rfl : f = 10 := Option.some.inj ((show Tryz.prog.funcNamed Rows.accessGuardsRow.func = some 10 by kernel_rfl).symm.trans hf) |>.symm
      obtain rfl : fn = Tryz.f10 := (Option.some.inj (Tryz.func10.symm.trans hfn)).symm
      refine ⟨by kernel_rfl, fun j t ht => ?_⟩
      have hall : Tryz.f10.params.all (fun t => !Tryz.prog.wantsStandIn t) = true := by kernel_rfl
      have hm : t ∈ Tryz.f10.params := Array.mem_of_getElem? ht
      have := Array.all_eq_true'.1 hall t hm
      exact (show Tryz.prog.wantsStandIn t = false by simpa using this))
    (by kernel_rfl)
end Go.Proofs.YtcmnepgnkcoiiaaGreatDoor
