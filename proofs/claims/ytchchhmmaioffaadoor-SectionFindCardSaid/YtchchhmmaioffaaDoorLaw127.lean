/- The statement 'SectionFind', as its tied card says it: the function returns true and its arguments read as before, at every input; the two tables of package utf8 read as the program's text lays them. No further condition. -/
import Derived.Test.YtchchhmmaioffaaDoorSea
import Derived.Test.YtchchhmmaioffaaDoorCards
import Derived.Test.YtchchhmmaioffaaDoorTie
namespace Go.Proofs.YtchchhmmaioffaaDoor
open Go.ChangeShapes Go.WideShapes Go.ChangeAt Go.RowKit Go.Ab
set_option linter.unusedVariables false

theorem main127 (xs : List V) (h : ArgsT Tryd.prog [24, 9] xs) (hi : V.imms xs = true) : PTr Tryd.prog 4 xs (.bool true) := by
  obtain ⟨x, r, rfl, hx, h2⟩ := h
  obtain ⟨y, r, rfl, hy, rfl⟩ := h2
  obtain ⟨l, rfl⟩ := arg_secs secs hx
  obtain ⟨s, rfl⟩ := arg_str u9 hy
  exact law127 fn127 strc fn128 fn129 fn125 fn138 kn l s

set_option maxRecDepth 100000 in
theorem lifted127 (os : Os) (started : os.Started) (H : Type) (enc : TypeId × Value → H) :
    ReturnsInHanded {} Tryd.checked os 4 .any (fun w args => (Rows.sectionFindSpec.pre enc Tryd.prog Tryd.f4 [] false w args ∧ laidMetH Tryd.prog Rows.sectionFindRow.laid w) ∧ sizedMet enc Tryd.prog Tryd.f4 (OpenSpec.ofChange Rows.sectionFindSpec) false w args)
      (Rows.sectionFindSpec.post enc Tryd.prog Tryd.f4 false true false false) := by
  refine laid_calls (C := Tryd.checked) (X := fun w => laidMetH Tryd.prog Rows.sectionFindRow.laid w) own started (by kernel_rfl) Tryd.func4
    (ChangeSpec.witness_shaped (enc := enc) (C := Tryd.checked) (os := os) (X := fun w _ => laidMetH Tryd.prog Rows.sectionFindRow.laid w) false (World.laidAll Tryd.prog os Rows.sectionFindRow.laid) #[.slice none 0 0, .string ⟨#[]⟩] 8 (World.laidAll_os _ _ _)
      (World.shaped_of_ZipB (by kernel_rfl) (by kernel_rfl)) (by kernel_rfl) (by kernel_rfl) (by kernel_rfl) (by rw [MakeChecks.laidMetH_plain _ _ _ (by kernel_rfl)]; exact laidMet_laidAll _ (by kernel_rfl) (by kernel_rfl))) ?_
  intro W base args ds gs before hval hW hsh
  exact law_contract (s := Rows.sectionFindSpec) (rt := 4) (S := tset) (ts := [24, 9]) (B := dbulkAll (ds ++ gs)) laid closed (by kernel_rfl) (by decide) (by decide +kernel) (by kernel_rfl) (by kernel_rfl) rfl
    (fun ds hd => by match ds, hd with | [d0, d1], _ => rfl) (fun xs a _ c => main127 xs a c) W base args ds gs before hval hW (Nat.le_refl _) hsh

theorem row127 : Rows.SectionFindSaid :=
  OpenClaim.holds_of_wide 4 Tryd.f4 rfl rfl rfl rfl rfl rfl rfl ⟨rfl, rfl, rfl, rfl, rfl⟩ rfl rfl rfl rfl rfl (by kernel_rfl) Tryd.func4 (by kernel_rfl)
    (of_decide_eq_true (by kernel_rfl)) (by unfold Func.isWrapper; first | (rw [if_pos (by decide +kernel)]; kernel_rfl) | (rw [if_neg (by decide +kernel)]; exact ⟨rfl, rfl⟩))
    (fun os started H enc _ => lifted127 os started H enc)

theorem proved127 : Rows.SectionFindCardSaid :=
  Claim7.holds_tied_plain_at .later [] [.data, .pinned] true (true, "fea1525eba29474ccbfab6f5e196b7ebfae8917ecfb4d39bb7d7bc6db00dfced") false
    row127 (fun _ h => by cases h) (by kernel_rfl) (fun _ h => by cases h) sectionFind_row_tie rfl ⟨rfl, rfl⟩ (by kernel_rfl) rfl
    (fun f fn hf hfn => by
      obtain rfl : f = 4 := Option.some.inj ((show Tryd.prog.funcNamed Rows.sectionFindRow.func = some 4 by kernel_rfl).symm.trans hf) |>.symm
      obtain rfl : fn = Tryd.f4 := (Option.some.inj (Tryd.func4.symm.trans hfn)).symm
      refine ⟨by kernel_rfl, fun j t ht => ?_⟩
      have hall : Tryd.f4.params.all (fun t => !Tryd.prog.wantsStandIn t) = true := by kernel_rfl
      have hm : t ∈ Tryd.f4.params := Array.mem_of_getElem? ht
      have := Array.all_eq_true'.1 hall t hm
      exact (show Tryd.prog.wantsStandIn t = false by simpa using this))
    (by kernel_rfl)
end Go.Proofs.YtchchhmmaioffaaDoor
