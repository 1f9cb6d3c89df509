/- The statement 'SectionReplaces', as its tied card says it: the function returns true and its arguments read as before, at every input; the two tables of package utf8 read as the program's text lays them. No further condition. -/
import Derived.Test.YtchchhmmaioffaaGreatDoorSea
import Derived.Test.YtchchhmmaioffaaGreatDoorCards
import Derived.Test.YtchchhmmaioffaaGreatDoorTie
namespace Go.Proofs.YtchchhmmaioffaaGreatDoor
open Go.ChangeShapes Go.WideShapes Go.ChangeAt Go.RowKit Go.Ab
set_option linter.unusedVariables false

theorem main166 (xs : List V) (h : ArgsT Tryz.prog [29, 3, 9] xs) (hi : V.imms xs = true) : PTr Tryz.prog 6 xs (.bool true) := by
  obtain ⟨x, r, rfl, hx, h2⟩ := h
  obtain ⟨y, r, rfl, hy, h3⟩ := h2
  obtain ⟨z, r, rfl, hz, rfl⟩ := h3
  obtain ⟨es, rfl, hes⟩ := arg_ints u29 u3 c3 hx
  obtain ⟨n, rfl, _, _⟩ := arg_int u3 hy
  obtain ⟨t, rfl⟩ := arg_str u9 hz
  exact law166 fn166 secf tc fn39 es (by simpa [V.imms, V.imm] using hi) hes n t

set_option maxRecDepth 100000 in
theorem lifted166 (os : Os) (started : os.Started) (H : Type) (enc : TypeId × Value → H) :
    ReturnsInHanded {} Tryz.checked os 6 .any (fun w args => (Rows.sectionReplacesSpec.pre enc Tryz.prog Tryz.f6 [] false w args ∧ laidMetH Tryz.prog Rows.sectionReplacesRow.laid w) ∧ sizedMet enc Tryz.prog Tryz.f6 (OpenSpec.ofChange Rows.sectionReplacesSpec) false w args)
      (Rows.sectionReplacesSpec.post enc Tryz.prog Tryz.f6 false true false false) := by
  refine laid_calls (C := Tryz.checked) (X := fun w => laidMetH Tryz.prog Rows.sectionReplacesRow.laid w) own started (by kernel_rfl) Tryz.func6
    (ChangeSpec.witness_shaped (enc := enc) (C := Tryz.checked) (os := os) (X := fun w _ => laidMetH Tryz.prog Rows.sectionReplacesRow.laid w) false (World.laidAll Tryz.prog os Rows.sectionReplacesRow.laid) #[.slice none 0 0, .int .i64 0, .string ⟨#[]⟩] 8 (World.laidAll_os _ _ _)
      (World.shaped_of_ZipB (by kernel_rfl) (by kernel_rfl)) (by kernel_rfl) (by kernel_rfl) (by kernel_rfl) (by rw [MakeChecks.laidMetH_plain _ _ _ (by kernel_rfl)]; exact laidMet_laidAll _ (by kernel_rfl) (by kernel_rfl))) ?_
  intro W base args ds gs before hval hW hsh
  exact law_contract (s := Rows.sectionReplacesSpec) (rt := 4) (S := tset) (ts := [29, 3, 9]) (B := dbulkAll (ds ++ gs)) laid closed (by kernel_rfl) (by decide) (by decide +kernel) (by kernel_rfl) (by kernel_rfl) rfl
    (fun ds hd => by match ds, hd with | [d0, d1, d2], _ => rfl) (fun xs a _ c => main166 xs a c) W base args ds gs before hval hW (Nat.le_refl _) hsh

theorem row166 : Rows.SectionReplacesSaid :=
  OpenClaim.holds_of_wide 6 Tryz.f6 rfl rfl rfl rfl rfl rfl rfl ⟨rfl, rfl, rfl, rfl, rfl⟩ rfl rfl rfl rfl rfl (by kernel_rfl) Tryz.func6 (by kernel_rfl)
    (of_decide_eq_true (by kernel_rfl)) (by unfold Func.isWrapper; first | (rw [if_pos (by decide +kernel)]; kernel_rfl) | (rw [if_neg (by decide +kernel)]; exact ⟨rfl, rfl⟩))
    (fun os started H enc _ => lifted166 os started H enc)

theorem proved166 : Rows.SectionReplacesCardSaid :=
  Claim7.holds_tied_plain_at .later [] [.data, .pinned] true (true, "c168d825d4f1137ede3140595d19693117833cc5194dfc28b8626e03fb7a6aa3") false
    row166 (fun _ h => by cases h) (by kernel_rfl) (fun _ h => by cases h) sectionReplaces_row_tie rfl ⟨rfl, rfl⟩ (by kernel_rfl) rfl
    (fun f fn hf hfn => by
      obtain rfl : f = 6 := Option.some.inj ((show Tryz.prog.funcNamed Rows.sectionReplacesRow.func = some 6 by kernel_rfl).symm.trans hf) |>.symm
      obtain rfl : fn = Tryz.f6 := (Option.some.inj (Tryz.func6.symm.trans hfn)).symm
      refine ⟨by kernel_rfl, fun j t ht => ?_⟩
      have hall : Tryz.f6.params.all (fun t => !Tryz.prog.wantsStandIn t) = true := by kernel_rfl
      have hm : t ∈ Tryz.f6.params := Array.mem_of_getElem? ht
      have := Array.all_eq_true'.1 hall t hm
      exact (show Tryz.prog.wantsStandIn t = false by simpa using this))
    (by kernel_rfl)
end Go.Proofs.YtchchhmmaioffaaGreatDoor
