/- The statement 'MergeExact', as its tied card says it: the function returns true and its arguments read as before, at every input; the two tables of package utf8 read as the program's text lays them. No further condition. -/
import Derived.Test.YtgdllpgidgiccaaGreatDoorSea
import Derived.Test.YtgdllpgidgiccaaGreatDoorCards
import Derived.Test.YtgdllpgidgiccaaGreatDoorTie
namespace Go.Proofs.YtgdllpgidgiccaaGreatDoor
open Go.ChangeShapes Go.WideShapes Go.ChangeAt Go.RowKit Go.Ab
set_option linter.unusedVariables false

theorem main276 (xs : List V) (h : ArgsT Tryz.prog [9, 9, 9, 22] xs) (hi : V.imms xs = true) : PTr Tryz.prog 5 xs (.bool true) := by
  obtain ⟨x, r, rfl, hx, h2⟩ := h
  obtain ⟨y, r, rfl, hy, h3⟩ := h2
  obtain ⟨z, r, rfl, hz, h4⟩ := h3
  obtain ⟨l, r, rfl, hl, rfl⟩ := h4
  obtain ⟨a, rfl⟩ := arg_str u9 hx
  obtain ⟨b, rfl⟩ := arg_str u9 hy
  obtain ⟨c, rfl⟩ := arg_str u9 hz
  obtain ⟨es, rfl, hes⟩ := arg_ints u22 u3 c3 hl
  exact law276 fn276 mlaw rmrg a b c es (by simpa [V.imms, V.imm] using hi) hes

set_option maxRecDepth 100000 in
theorem lifted276 (os : Os) (started : os.Started) (H : Type) (enc : TypeId × Value → H) :
    ReturnsInHanded {} Tryz.checked os 5 .any (fun w args => (Rows.mergeExactSpec.pre enc Tryz.prog Tryz.f5 [] false w args ∧ laidMetH Tryz.prog Rows.mergeExactRow.laid w) ∧ sizedMet enc Tryz.prog Tryz.f5 (OpenSpec.ofChange Rows.mergeExactSpec) false w args)
      (Rows.mergeExactSpec.post enc Tryz.prog Tryz.f5 false true false false) := by
  refine laid_calls (C := Tryz.checked) (X := fun w => laidMetH Tryz.prog Rows.mergeExactRow.laid w) own started (by kernel_rfl) Tryz.func5
    (ChangeSpec.witness_shaped (enc := enc) (C := Tryz.checked) (os := os) (X := fun w _ => laidMetH Tryz.prog Rows.mergeExactRow.laid w) false (World.laidAll Tryz.prog os Rows.mergeExactRow.laid) #[.string ⟨#[]⟩, .string ⟨#[]⟩, .string ⟨#[]⟩, .slice none 0 0] 8 (World.laidAll_os _ _ _)
      (World.shaped_of_ZipB (by kernel_rfl) (by kernel_rfl)) (by kernel_rfl) (by kernel_rfl) (by kernel_rfl) (by rw [MakeChecks.laidMetH_plain _ _ _ (by kernel_rfl)]; exact laidMet_laidAll _ (by kernel_rfl) (by kernel_rfl))) ?_
  intro W base args ds gs before hval hW hsh
  exact law_contract (s := Rows.mergeExactSpec) (rt := 4) (S := tset) (ts := [9, 9, 9, 22]) (B := dbulkAll (ds ++ gs)) laid closed (by kernel_rfl) (by decide) (by decide +kernel) (by kernel_rfl) (by kernel_rfl) rfl
    (fun ds hd => by match ds, hd with | [d0, d1, d2, d3], _ => rfl) (fun xs a _ c => main276 xs a c) W base args ds gs before hval hW (Nat.le_refl _) hsh

theorem row276 : Rows.MergeExactSaid :=
  OpenClaim.holds_of_wide 5 Tryz.f5 rfl rfl rfl rfl rfl rfl rfl ⟨rfl, rfl, rfl, rfl, rfl⟩ rfl rfl rfl rfl rfl (by kernel_rfl) Tryz.func5 (by kernel_rfl)
    (of_decide_eq_true (by kernel_rfl)) (by unfold Func.isWrapper; first | (rw [if_pos (by decide +kernel)]; kernel_rfl) | (rw [if_neg (by decide +kernel)]; exact ⟨rfl, rfl⟩))
    (fun os started H enc _ => lifted276 os started H enc)

theorem proved276 : Rows.MergeExactCardSaid :=
  Claim7.holds_tied_plain_at .later [] [.data, .pinned] true (true, "8538a9ae60c057525198fbb177d47bc5be6ab6ebefe0acf9ccc1c425fd0284fe") false
    row276 (fun _ h => by cases h) (by kernel_rfl) (fun _ h => by cases h) mergeExact_row_tie rfl ⟨rfl, rfl⟩ (by kernel_rfl) rfl
    (fun f fn hf hfn => by
      obtain rfl : f = 5 := Option.some.inj ((show Tryz.prog.funcNamed Rows.mergeExactRow.func = some 5 by kernel_rfl).symm.trans hf) |>.symm
      obtain rfl : fn = Tryz.f5 := (Option.some.inj (Tryz.func5.symm.trans hfn)).symm
      refine ⟨by kernel_rfl, fun j t ht => ?_⟩
      have hall : Tryz.f5.params.all (fun t => !Tryz.prog.wantsStandIn t) = true := by kernel_rfl
      have hm : t ∈ Tryz.f5.params := Array.mem_of_getElem? ht
      have := Array.all_eq_true'.1 hall t hm
      exact (show Tryz.prog.wantsStandIn t = false by simpa using this))
    (by kernel_rfl)
end Go.Proofs.YtgdllpgidgiccaaGreatDoor
