/- The statement 'EditAccepts', as its tied card says it: the function returns true and its arguments read as before, at every input; the package-level variables that are named read as the program's text lays them. No further condition. -/
import Derived.Test.YtjakkhalapaofaaGreatDoorLaw301b
import Derived.Test.YtjakkhalapaofaaGreatDoorCards
import Derived.Test.YtjakkhalapaofaaGreatDoorTie
namespace Go.Proofs.YtjakkhalapaofaaGreatDoor
open Go.ChangeShapes Go.WideShapes Go.ChangeAt Go.RowKit Go.Ab
set_option linter.unusedVariables false

theorem wf301 : Rows.editAcceptsRow.wfByText (OpenSpec.ofChange Rows.editAcceptsSpec) = true := by kernel_rfl
theorem mi301 : Tryz.pinned.checked.prog.mainIs = some (true, "e1b3d20431e48e046baf6161df8e7f381538a17972db4f106e9ad3b5857ee7ff".toList) := by kernel_rfl
theorem lk301 : false = Tryz.pinned.checked.prog.looks [] := by kernel_rfl
theorem go301 : false = Rows.editAcceptsRow.goesBy Tryz.pinned.checked.prog := by kernel_rfl
theorem sa301 : Tryz.f5.params.all (fun t => !Tryz.prog.wantsStandIn t) = true := by kernel_rfl
theorem nm301 : Tryz.prog.funcNamed Rows.editAcceptsRow.func = some 5 := by kernel_rfl
theorem proved301 : Rows.EditAcceptsCardSaid :=
  Claim7.holds_tied_plain_at .later [] [.data, .data, .pinned] true (true, "e1b3d20431e48e046baf6161df8e7f381538a17972db4f106e9ad3b5857ee7ff") false
    row301 (fun _ h => by cases h) wf301 (fun _ h => by cases h) editAccepts_row_tie rfl ⟨rfl, rfl⟩ mi301 rfl
    (fun f fn hf hfn => by
      obtain rfl : f = 5 := Option.some.inj (nm301.symm.trans hf) |>.symm
      obtain rfl : fn = Tryz.f5 := (Option.some.inj (Tryz.func5.symm.trans hfn)).symm
      refine ⟨lk301, fun j t ht => ?_⟩
      have hm : t ∈ Tryz.f5.params := Array.mem_of_getElem? ht
      have := Array.all_eq_true'.1 sa301 t hm
      exact (show Tryz.prog.wantsStandIn t = false by simpa using this))
    go301
end Go.Proofs.YtjakkhalapaofaaGreatDoor
