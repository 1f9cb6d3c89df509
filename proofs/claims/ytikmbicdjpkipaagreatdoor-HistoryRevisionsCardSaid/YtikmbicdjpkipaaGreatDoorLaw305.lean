/- The statement 'HistoryRevisions', as its tied card says it: the function returns true and its arguments read as before, at every input; the package-level variables that are named read as the program's text lays them. No further condition. -/
import Derived.Test.YtikmbicdjpkipaaGreatDoorLaw305b
import Derived.Test.YtikmbicdjpkipaaGreatDoorCards
import Derived.Test.YtikmbicdjpkipaaGreatDoorTie
namespace Go.Proofs.YtikmbicdjpkipaaGreatDoor
open Go.ChangeShapes Go.WideShapes Go.ChangeAt Go.RowKit Go.Ab
set_option linter.unusedVariables false

theorem wf305 : Rows.historyRevisionsRow.wfByText (OpenSpec.ofChange Rows.historyRevisionsSpec) = true := by kernel_rfl
theorem mi305 : Tryz.pinned.checked.prog.mainIs = some (true, "1230da29600ffb26d2d09d5c3c92515097c8c5b9c5949644c45cc2c0b295e5e8".toList) := by kernel_rfl
theorem lk305 : false = Tryz.pinned.checked.prog.looks [] := by kernel_rfl
theorem go305 : false = Rows.historyRevisionsRow.goesBy Tryz.pinned.checked.prog := by kernel_rfl
theorem sa305 : Tryz.f3.params.all (fun t => !Tryz.prog.wantsStandIn t) = true := by kernel_rfl
theorem nm305 : Tryz.prog.funcNamed Rows.historyRevisionsRow.func = some 3 := by kernel_rfl
theorem proved305 : Rows.HistoryRevisionsCardSaid :=
  Claim7.holds_tied_plain_at .later [] [.data, .data, .data, .pinned] true (true, "1230da29600ffb26d2d09d5c3c92515097c8c5b9c5949644c45cc2c0b295e5e8") false
    row305 (fun _ h => by cases h) wf305 (fun _ h => by cases h) historyRevisions_row_tie rfl ⟨rfl, rfl⟩ mi305 rfl
    (fun f fn hf hfn => by
      obtain rfl : f = 3 := Option.some.inj (nm305.symm.trans hf) |>.symm
      obtain rfl : fn = Tryz.f3 := (Option.some.inj (Tryz.func3.symm.trans hfn)).symm
      refine ⟨lk305, fun j t ht => ?_⟩
      have hm : t ∈ Tryz.f3.params := Array.mem_of_getElem? ht
      have := Array.all_eq_true'.1 sa305 t hm
      exact (show Tryz.prog.wantsStandIn t = false by simpa using this))
    go305
end Go.Proofs.YtikmbicdjpkipaaGreatDoor
