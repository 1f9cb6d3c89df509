/- The statement 'MergeSections', as its tied card says it: the function returns true and its arguments read as before, at every input; the two tables of package utf8 read as the program's text lays them. No further condition. -/
import Derived.Test.YtgdllpgidgiccaaGreatDoorSea
import Derived.Test.YtgdllpgidgiccaaGreatDoorCards
import Derived.Test.YtgdllpgidgiccaaGreatDoorTie
namespace Go.Proofs.YtgdllpgidgiccaaGreatDoor
open Go.ChangeShapes Go.WideShapes Go.ChangeAt Go.RowKit Go.Ab
set_option linter.unusedVariables false

theorem main274 (xs : List V) (h : ArgsT Tryz.prog [3, 9, 9] xs) (hi : V.imms xs = true) : PTr Tryz.prog 4 xs (.bool true) := by
  obtain ⟨x, r, rfl, hx, h2⟩ := h
  obtain ⟨y, r, rfl, hy, h3⟩ := h2
  obtain ⟨z, r, rfl, hz, rfl⟩ := h3
  obtain ⟨n, rfl, _, _⟩ := arg_int u3 hx
  obtain ⟨a, rfl⟩ := arg_str u9 hy
  obtain ⟨b, rfl⟩ := arg_str u9 hz
  exact law274 fn274 mrg anyc fn275 sectR fn163 fn170 kn n a b

set_option maxRecDepth 100000 in
theorem lifted274 (os : Os) (started : os.Started) (H : Type) (enc : TypeId × Value → H) :
    ReturnsInHanded {} Tryz.checked os 4 .any (fun w args => (Rows.mergeSectionsSpec.pre enc Tryz.prog Tryz.f4 [] false w args ∧ laidMetH Tryz.prog Rows.mergeSectionsRow.laid w) ∧ sizedMet enc Tryz.prog Tryz.f4 (OpenSpec.ofChange Rows.mergeSectionsSpec) false w args)
      (Rows.mergeSectionsSpec.post enc Tryz.prog Tryz.f4 false true false false) := by
  refine laid_calls (C := Tryz.checked) (X := fun w => laidMetH Tryz.prog Rows.mergeSectionsRow.laid w) own started (by kernel_rfl) Tryz.func4
    (ChangeSpec.witness_shaped (enc := enc) (C := Tryz.checked) (os := os) (X := fun w _ => laidMetH Tryz.prog Rows.mergeSectionsRow.laid w) false (World.laidAll Tryz.prog os Rows.mergeSectionsRow.laid) #[.int .i64 0, .string ⟨#[]⟩, .string ⟨#[]⟩] 8 (World.laidAll_os _ _ _)
      (World.shaped_of_ZipB (by kernel_rfl) (by kernel_rfl)) (by kernel_rfl) (by kernel_rfl) (by kernel_rfl) (by rw [MakeChecks.laidMetH_plain _ _ _ (by kernel_rfl)]; exact laidMet_laidAll _ (by kernel_rfl) (by kernel_rfl))) ?_
  intro W base args ds gs before hval hW hsh
  exact law_contract (s := Rows.mergeSectionsSpec) (rt := 4) (S := tset) (ts := [3, 9, 9]) (B := dbulkAll (ds ++ gs)) laid closed (by kernel_rfl) (by decide) (by decide +kernel) (by kernel_rfl) (by kernel_rfl) rfl
    (fun ds hd => by match ds, hd with | [d0, d1, d2], _ => rfl) (fun xs a _ c => main274 xs a c) W base args ds gs before hval hW (Nat.le_refl _) hsh

theorem row274 : Rows.MergeSectionsSaid :=
  OpenClaim.holds_of_wide 4 Tryz.f4 rfl rfl rfl rfl rfl rfl rfl ⟨rfl, rfl, rfl, rfl, rfl⟩ rfl rfl rfl rfl rfl (by kernel_rfl) Tryz.func4 (by kernel_rfl)
    (of_decide_eq_true (by kernel_rfl)) (by unfold Func.isWrapper; first | (rw [if_pos (by decide +kernel)]; kernel_rfl) | (rw [if_neg (by decide +kernel)]; exact ⟨rfl, rfl⟩))
    (fun os started H enc _ => lifted274 os started H enc)

theorem proved274 : Rows.MergeSectionsCardSaid :=
  Claim7.holds_tied_plain_at .later [] [.data, .pinned] true (true, "8538a9ae60c057525198fbb177d47bc5be6ab6ebefe0acf9ccc1c425fd0284fe") false
    row274 (fun _ h => by cases h) (by kernel_rfl) (fun _ h => by cases h) mergeSections_row_tie rfl ⟨rfl, rfl⟩ (by kernel_rfl) rfl
    (fun f fn hf hfn => by
      obtain rfl : f = 4 := Option.some.inj ((show Tryz.prog.funcNamed Rows.mergeSectionsRow.func = some 4 by kernel_rfl).symm.trans hf) |>.symm
      obtain rfl : fn = Tryz.f4 := (Option.some.inj (Tryz.func4.symm.trans hfn)).symm
      refine ⟨by kernel_rfl, fun j t ht => ?_⟩
      have hall : Tryz.f4.params.all (fun t => !Tryz.prog.wantsStandIn t) = true := by kernel_rfl
      have hm : t ∈ Tryz.f4.params := Array.mem_of_getElem? ht
      have := Array.all_eq_true'.1 hall t hm
      exact (show Tryz.prog.wantsStandIn t = false by simpa using this))
    (by kernel_rfl)
end Go.Proofs.YtgdllpgidgiccaaGreatDoor
