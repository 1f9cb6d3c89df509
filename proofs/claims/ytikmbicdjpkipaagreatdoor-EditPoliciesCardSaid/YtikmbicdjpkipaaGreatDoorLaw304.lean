/- The statement 'EditPolicies', as its tied card says it: the function returns true and its arguments read as before, at every input; the package-level variables that are named read as the program's text lays them. No further condition. -/
import Derived.Test.YtikmbicdjpkipaaGreatDoorLaw304b
import Derived.Test.YtikmbicdjpkipaaGreatDoorCards
import Derived.Test.YtikmbicdjpkipaaGreatDoorTie
namespace Go.Proofs.YtikmbicdjpkipaaGreatDoor
open Go.ChangeShapes Go.WideShapes Go.ChangeAt Go.RowKit Go.Ab
set_option linter.unusedVariables false

theorem wf304 : Rows.editPoliciesRow.wfByText (OpenSpec.ofChange Rows.editPoliciesSpec) = true := by kernel_rfl
theorem mi304 : Tryz.pinned.checked.prog.mainIs = some (true, "1230da29600ffb26d2d09d5c3c92515097c8c5b9c5949644c45cc2c0b295e5e8".toList) := by kernel_rfl
theorem lk304 : false = Tryz.pinned.checked.prog.looks [] := by kernel_rfl
theorem go304 : false = Rows.editPoliciesRow.goesBy Tryz.pinned.checked.prog := by kernel_rfl
theorem sa304 : Tryz.f5.params.all (fun t => !Tryz.prog.wantsStandIn t) = true := by kernel_rfl
theorem nm304 : Tryz.prog.funcNamed Rows.editPoliciesRow.func = some 5 := by kernel_rfl
theorem proved304 : Rows.EditPoliciesCardSaid :=
  Claim7.holds_tied_plain_at .later [] [.data, .data, .pinned] true (true, "1230da29600ffb26d2d09d5c3c92515097c8c5b9c5949644c45cc2c0b295e5e8") false
    row304 (fun _ h => by cases h) wf304 (fun _ h => by cases h) editPolicies_row_tie rfl ⟨rfl, rfl⟩ mi304 rfl
    (fun f fn hf hfn => by
      obtain rfl : f = 5 := Option.some.inj (nm304.symm.trans hf) |>.symm
      obtain rfl : fn = Tryz.f5 := (Option.some.inj (Tryz.func5.symm.trans hfn)).symm
      refine ⟨lk304, fun j t ht => ?_⟩
      have hm : t ∈ Tryz.f5.params := Array.mem_of_getElem? ht
      have := Array.all_eq_true'.1 sa304 t hm
      exact (show Tryz.prog.wantsStandIn t = false by simpa using this))
    go304
end Go.Proofs.YtikmbicdjpkipaaGreatDoor
