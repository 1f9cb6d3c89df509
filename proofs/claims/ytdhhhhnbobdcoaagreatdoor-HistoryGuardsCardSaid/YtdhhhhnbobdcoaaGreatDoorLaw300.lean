/- The statement 'HistoryGuards', as its tied card says it: the function returns true and its arguments read as before, at every input; the package-level variables that are named read as the program's text lays them. No further condition. -/
import Derived.Test.YtdhhhhnbobdcoaaGreatDoorLaw300b
import Derived.Test.YtdhhhhnbobdcoaaGreatDoorCards
import Derived.Test.YtdhhhhnbobdcoaaGreatDoorTie
namespace Go.Proofs.YtdhhhhnbobdcoaaGreatDoor
open Go.ChangeShapes Go.WideShapes Go.ChangeAt Go.RowKit Go.Ab
set_option linter.unusedVariables false

theorem wf300 : Rows.historyGuardsRow.wfByText (OpenSpec.ofChange Rows.historyGuardsSpec) = true := by kernel_rfl
theorem mi300 : Tryz.pinned.checked.prog.mainIs = some (true, "27b6855ec958128c1c5f3785ea724f3de851ecd7a0b9ddc9070873c274ffab8e".toList) := by kernel_rfl
theorem lk300 : false = Tryz.pinned.checked.prog.looks [] := by kernel_rfl
theorem go300 : false = Rows.historyGuardsRow.goesBy Tryz.pinned.checked.prog := by kernel_rfl
theorem sa300 : Tryz.f4.params.all (fun t => !Tryz.prog.wantsStandIn t) = true := by kernel_rfl
theorem nm300 : Tryz.prog.funcNamed Rows.historyGuardsRow.func = some 4 := by kernel_rfl
theorem proved300 : Rows.HistoryGuardsCardSaid :=
  Claim7.holds_tied_plain_at .later [] [.data, .data, .data, .pinned] true (true, "27b6855ec958128c1c5f3785ea724f3de851ecd7a0b9ddc9070873c274ffab8e") false
    row300 (fun _ h => by cases h) wf300 (fun _ h => by cases h) historyGuards_row_tie rfl ⟨rfl, rfl⟩ mi300 rfl
    (fun f fn hf hfn => by
      obtain rfl : f = 4 := Option.some.inj (nm300.symm.trans hf) |>.symm
      obtain rfl : fn = Tryz.f4 := (Option.some.inj (Tryz.func4.symm.trans hfn)).symm
      refine ⟨lk300, fun j t ht => ?_⟩
      have hm : t ∈ Tryz.f4.params := Array.mem_of_getElem? ht
      have := Array.all_eq_true'.1 sa300 t hm
      exact (show Tryz.prog.wantsStandIn t = false by simpa using this))
    go300
end Go.Proofs.YtdhhhhnbobdcoaaGreatDoor
