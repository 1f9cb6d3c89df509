/- The statement 'SectionSame', as its tied card says it: the function returns true and its arguments read as before, at every input; the two tables of package utf8 read as the program's text lays them. No further condition. -/
import Derived.Test.YtchchhmmaioffaaDoorSea
import Derived.Test.YtchchhmmaioffaaDoorCards
import Derived.Test.YtchchhmmaioffaaDoorTie
namespace Go.Proofs.YtchchhmmaioffaaDoor
open Go.ChangeShapes Go.WideShapes Go.ChangeAt Go.RowKit Go.Ab
set_option linter.unusedVariables false

theorem main133 (xs : List V) (h : ArgsT Tryd.prog [37, 3] xs) (hi : V.imms xs = true) : PTr Tryd.prog 6 xs (.bool true) := by
  obtain ⟨x, r, rfl, hx, h2⟩ := h
  obtain ⟨y, r, rfl, hy, rfl⟩ := h2
  obtain ⟨es, rfl, hes⟩ := arg_ints u37 u3 c3 hx
  obtain ⟨n, rfl, _, _⟩ := arg_int u3 hy
  exact law133 fn133 strc tc fn39 sect fn124 fn136 fn36 fn56 fn132 fn134 fn141 kn es (by simpa [V.imms, V.imm] using hi) hes n

set_option maxRecDepth 100000 in
theorem lifted133 (os : Os) (started : os.Started) (H : Type) (enc : TypeId × Value → H) :
    ReturnsInHanded {} Tryd.checked os 6 .any (fun w args => (Rows.sectionSameSpec.pre enc Tryd.prog Tryd.f6 [] false w args ∧ laidMetH Tryd.prog Rows.sectionSameRow.laid w) ∧ sizedMet enc Tryd.prog Tryd.f6 (OpenSpec.ofChange Rows.sectionSameSpec) false w args)
      (Rows.sectionSameSpec.post enc Tryd.prog Tryd.f6 false true false false) := by
  refine laid_calls (C := Tryd.checked) (X := fun w => laidMetH Tryd.prog Rows.sectionSameRow.laid w) own started (by kernel_rfl) Tryd.func6
    (ChangeSpec.witness_shaped (enc := enc) (C := Tryd.checked) (os := os) (X := fun w _ => laidMetH Tryd.prog Rows.sectionSameRow.laid w) false (World.laidAll Tryd.prog os Rows.sectionSameRow.laid) #[.slice none 0 0, .int .i64 0] 8 (World.laidAll_os _ _ _)
      (World.shaped_of_ZipB (by kernel_rfl) (by kernel_rfl)) (by kernel_rfl) (by kernel_rfl) (by kernel_rfl) (by rw [MakeChecks.laidMetH_plain _ _ _ (by kernel_rfl)]; exact laidMet_laidAll _ (by kernel_rfl) (by kernel_rfl))) ?_
  intro W base args ds gs before hval hW hsh
  exact law_contract (s := Rows.sectionSameSpec) (rt := 4) (S := tset) (ts := [37, 3]) (B := dbulkAll (ds ++ gs)) laid closed (by kernel_rfl) (by decide) (by decide +kernel) (by kernel_rfl) (by kernel_rfl) rfl
    (fun ds hd => by match ds, hd with | [d0, d1], _ => rfl) (fun xs a _ c => main133 xs a c) W base args ds gs before hval hW (Nat.le_refl _) hsh

theorem row133 : Rows.SectionSameSaid :=
  OpenClaim.holds_of_wide 6 Tryd.f6 rfl rfl rfl rfl rfl rfl rfl ⟨rfl, rfl, rfl, rfl, rfl⟩ rfl rfl rfl rfl rfl (by kernel_rfl) Tryd.func6 (by kernel_rfl)
    (of_decide_eq_true (by kernel_rfl)) (by unfold Func.isWrapper; first | (rw [if_pos (by decide +kernel)]; kernel_rfl) | (rw [if_neg (by decide +kernel)]; exact ⟨rfl, rfl⟩))
    (fun os started H enc _ => lifted133 os started H enc)

theorem proved133 : Rows.SectionSameCardSaid :=
  Claim7.holds_tied_plain_at .later [] [.data, .pinned] true (true, "fea1525eba29474ccbfab6f5e196b7ebfae8917ecfb4d39bb7d7bc6db00dfced") false
    row133 (fun _ h => by cases h) (by kernel_rfl) (fun _ h => by cases h) sectionSame_row_tie rfl ⟨rfl, rfl⟩ (by kernel_rfl) rfl
    (fun f fn hf hfn => by
      obtain rfl : f = 6 := Option.some.inj ((show Tryd.prog.funcNamed Rows.sectionSameRow.func = some 6 by kernel_rfl).symm.trans hf) |>.symm
      obtain rfl : fn = Tryd.f6 := (Option.some.inj (Tryd.func6.symm.trans hfn)).symm
      refine ⟨by kernel_rfl, fun j t ht => ?_⟩
      have hall : Tryd.f6.params.all (fun t => !Tryd.prog.wantsStandIn t) = true := by kernel_rfl
      have hm : t ∈ Tryd.f6.params := Array.mem_of_getElem? ht
      have := Array.all_eq_true'.1 hall t hm
      exact (show Tryd.prog.wantsStandIn t = false by simpa using this))
    (by kernel_rfl)
end Go.Proofs.YtchchhmmaioffaaDoor
