/- The statement 'EditConflict', as its tied card says it: the function returns true and its arguments read as before, at every input; the package-level variables that are named read as the program's text lays them. No further condition. -/
import Derived.Test.YtjakkhalapaofaaGreatDoorLaw303b
import Derived.Test.YtjakkhalapaofaaGreatDoorCards
import Derived.Test.YtjakkhalapaofaaGreatDoorTie
namespace Go.Proofs.YtjakkhalapaofaaGreatDoor
open Go.ChangeShapes Go.WideShapes Go.ChangeAt Go.RowKit Go.Ab
set_option linter.unusedVariables false

theorem wf303 : Rows.editConflictRow.wfByText (OpenSpec.ofChange Rows.editConflictSpec) = true := by kernel_rfl
theorem mi303 : Tryz.pinned.checked.prog.mainIs = some (true, "e1b3d20431e48e046baf6161df8e7f381538a17972db4f106e9ad3b5857ee7ff".toList) := by kernel_rfl
theorem lk303 : false = Tryz.pinned.checked.prog.looks [] := by kernel_rfl
theorem go303 : false = Rows.editConflictRow.goesBy Tryz.pinned.checked.prog := by kernel_rfl
theorem sa303 : Tryz.f3.params.all (fun t => !Tryz.prog.wantsStandIn t) = true := by kernel_rfl
theorem nm303 : Tryz.prog.funcNamed Rows.editConflictRow.func = some 3 := by kernel_rfl
theorem proved303 : Rows.EditConflictCardSaid :=
  Claim7.holds_tied_plain_at .later [] [.data, .data, .pinned] true (true, "e1b3d20431e48e046baf6161df8e7f381538a17972db4f106e9ad3b5857ee7ff") false
    row303 (fun _ h => by cases h) wf303 (fun _ h => by cases h) editConflict_row_tie rfl ⟨rfl, rfl⟩ mi303 rfl
    (fun f fn hf hfn => by
      obtain rfl : f = 3 := Option.some.inj (nm303.symm.trans hf) |>.symm
      obtain rfl : fn = Tryz.f3 := (Option.some.inj (Tryz.func3.symm.trans hfn)).symm
      refine ⟨lk303, fun j t ht => ?_⟩
      have hm : t ∈ Tryz.f3.params := Array.mem_of_getElem? ht
      have := Array.all_eq_true'.1 sa303 t hm
      exact (show Tryz.prog.wantsStandIn t = false by simpa using this))
    go303
end Go.Proofs.YtjakkhalapaofaaGreatDoor
