/- The statement 'EditGuards', as its tied card says it: the function returns true and its arguments read as before, at every input; the package-level variables that are named read as the program's text lays them. No further condition. -/
import Derived.Test.YtjakkhalapaofaaGreatDoorLaw302b
import Derived.Test.YtjakkhalapaofaaGreatDoorCards
import Derived.Test.YtjakkhalapaofaaGreatDoorTie
namespace Go.Proofs.YtjakkhalapaofaaGreatDoor
open Go.ChangeShapes Go.WideShapes Go.ChangeAt Go.RowKit Go.Ab
set_option linter.unusedVariables false

theorem wf302 : Rows.editGuardsRow.wfByText (OpenSpec.ofChange Rows.editGuardsSpec) = true := by kernel_rfl
theorem mi302 : Tryz.pinned.checked.prog.mainIs = some (true, "e1b3d20431e48e046baf6161df8e7f381538a17972db4f106e9ad3b5857ee7ff".toList) := by kernel_rfl
theorem lk302 : false = Tryz.pinned.checked.prog.looks [] := by kernel_rfl
theorem go302 : false = Rows.editGuardsRow.goesBy Tryz.pinned.checked.prog := by kernel_rfl
theorem sa302 : Tryz.f4.params.all (fun t => !Tryz.prog.wantsStandIn t) = true := by kernel_rfl
theorem nm302 : Tryz.prog.funcNamed Rows.editGuardsRow.func = some 4 := by kernel_rfl
theorem proved302 : Rows.EditGuardsCardSaid :=
  Claim7.holds_tied_plain_at .later [] [.data, .data, .pinned] true (true, "e1b3d20431e48e046baf6161df8e7f381538a17972db4f106e9ad3b5857ee7ff") false
    row302 (fun _ h => by cases h) wf302 (fun _ h => by cases h) editGuards_row_tie rfl ⟨rfl, rfl⟩ mi302 rfl
    (fun f fn hf hfn => by
      obtain rfl : f = 4 := Option.some.inj (nm302.symm.trans hf) |>.symm
      obtain rfl : fn = Tryz.f4 := (Option.some.inj (Tryz.func4.symm.trans hfn)).symm
      refine ⟨lk302, fun j t ht => ?_⟩
      have hm : t ∈ Tryz.f4.params := Array.mem_of_getElem? ht
      have := Array.all_eq_true'.1 sa302 t hm
      exact (show Tryz.prog.wantsStandIn t = false by simpa using this))
    go302
end Go.Proofs.YtjakkhalapaofaaGreatDoor
