/- The statement 'EditDenied', as its tied card says it: the function returns true and its arguments read as before, at every input; the package-level variables that are named read as the program's text lays them. No further condition. -/
import Derived.Test.YtikmbicdjpkipaaGreatDoorLaw302b
import Derived.Test.YtikmbicdjpkipaaGreatDoorCards
import Derived.Test.YtikmbicdjpkipaaGreatDoorTie
namespace Go.Proofs.YtikmbicdjpkipaaGreatDoor
open Go.ChangeShapes Go.WideShapes Go.ChangeAt Go.RowKit Go.Ab
set_option linter.unusedVariables false

theorem wf302 : Rows.editDeniedRow.wfByText (OpenSpec.ofChange Rows.editDeniedSpec) = true := by kernel_rfl
theorem mi302 : Tryz.pinned.checked.prog.mainIs = some (true, "1230da29600ffb26d2d09d5c3c92515097c8c5b9c5949644c45cc2c0b295e5e8".toList) := by kernel_rfl
theorem lk302 : false = Tryz.pinned.checked.prog.looks [] := by kernel_rfl
theorem go302 : false = Rows.editDeniedRow.goesBy Tryz.pinned.checked.prog := by kernel_rfl
theorem sa302 : Tryz.f6.params.all (fun t => !Tryz.prog.wantsStandIn t) = true := by kernel_rfl
theorem nm302 : Tryz.prog.funcNamed Rows.editDeniedRow.func = some 6 := by kernel_rfl
theorem proved302 : Rows.EditDeniedCardSaid :=
  Claim7.holds_tied_plain_at .later [] [.data, .data, .pinned] true (true, "1230da29600ffb26d2d09d5c3c92515097c8c5b9c5949644c45cc2c0b295e5e8") false
    row302 (fun _ h => by cases h) wf302 (fun _ h => by cases h) editDenied_row_tie rfl ⟨rfl, rfl⟩ mi302 rfl
    (fun f fn hf hfn => by
      obtain rfl : f = 6 := Option.some.inj (nm302.symm.trans hf) |>.symm
      obtain rfl : fn = Tryz.f6 := (Option.some.inj (Tryz.func6.symm.trans hfn)).symm
      refine ⟨lk302, fun j t ht => ?_⟩
      have hm : t ∈ Tryz.f6.params := Array.mem_of_getElem? ht
      have := Array.all_eq_true'.1 sa302 t hm
      exact (show Tryz.prog.wantsStandIn t = false by simpa using this))
    go302
end Go.Proofs.YtikmbicdjpkipaaGreatDoor
