/- The statement 'HistoryDenied', as its tied card says it: the function returns true and its arguments read as before, at every input; the package-level variables that are named read as the program's text lays them. No further condition. -/
import Derived.Test.YtikmbicdjpkipaaGreatDoorLaw303b
import Derived.Test.YtikmbicdjpkipaaGreatDoorCards
import Derived.Test.YtikmbicdjpkipaaGreatDoorTie
namespace Go.Proofs.YtikmbicdjpkipaaGreatDoor
open Go.ChangeShapes Go.WideShapes Go.ChangeAt Go.RowKit Go.Ab
set_option linter.unusedVariables false

theorem wf303 : Rows.historyDeniedRow.wfByText (OpenSpec.ofChange Rows.historyDeniedSpec) = true := by kernel_rfl
theorem mi303 : Tryz.pinned.checked.prog.mainIs = some (true, "1230da29600ffb26d2d09d5c3c92515097c8c5b9c5949644c45cc2c0b295e5e8".toList) := by kernel_rfl
theorem lk303 : false = Tryz.pinned.checked.prog.looks [] := by kernel_rfl
theorem go303 : false = Rows.historyDeniedRow.goesBy Tryz.pinned.checked.prog := by kernel_rfl
theorem sa303 : Tryz.f4.params.all (fun t => !Tryz.prog.wantsStandIn t) = true := by kernel_rfl
theorem nm303 : Tryz.prog.funcNamed Rows.historyDeniedRow.func = some 4 := by kernel_rfl
theorem proved303 : Rows.HistoryDeniedCardSaid :=
  Claim7.holds_tied_plain_at .later [] [.data, .data, .data, .pinned] true (true, "1230da29600ffb26d2d09d5c3c92515097c8c5b9c5949644c45cc2c0b295e5e8") false
    row303 (fun _ h => by cases h) wf303 (fun _ h => by cases h) historyDenied_row_tie rfl ⟨rfl, rfl⟩ mi303 rfl
    (fun f fn hf hfn => by
      obtain rfl : f = 4 := Option.some.inj (nm303.symm.trans hf) |>.symm
      obtain rfl : fn = Tryz.f4 := (Option.some.inj (Tryz.func4.symm.trans hfn)).symm
      refine ⟨lk303, fun j t ht => ?_⟩
      have hm : t ∈ Tryz.f4.params := Array.mem_of_getElem? ht
      have := Array.all_eq_true'.1 sa303 t hm
      exact (show Tryz.prog.wantsStandIn t = false by simpa using this))
    go303
end Go.Proofs.YtikmbicdjpkipaaGreatDoor
