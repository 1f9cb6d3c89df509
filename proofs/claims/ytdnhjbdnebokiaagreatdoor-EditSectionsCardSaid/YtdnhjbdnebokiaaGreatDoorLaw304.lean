/- The statement 'EditSections', as its tied card says it: the function returns true and its arguments read as before, at every input; the package-level variables that are named read as the program's text lays them. No further condition. -/
import Derived.Test.YtdnhjbdnebokiaaGreatDoorLaw304b
import Derived.Test.YtdnhjbdnebokiaaGreatDoorCards
import Derived.Test.YtdnhjbdnebokiaaGreatDoorTie
namespace Go.Proofs.YtdnhjbdnebokiaaGreatDoor
open Go.ChangeShapes Go.WideShapes Go.ChangeAt Go.RowKit Go.Ab
set_option linter.unusedVariables false

theorem wf304 : Rows.editSectionsRow.wfByText (OpenSpec.ofChange Rows.editSectionsSpec) = true := by kernel_rfl
theorem mi304 : Tryz.pinned.checked.prog.mainIs = some (true, "8029aa35d363f64d65f5e7cfd830352ff104778d76a37d319029a474007ec5b5".toList) := by kernel_rfl
theorem lk304 : false = Tryz.pinned.checked.prog.looks [] := by kernel_rfl
theorem go304 : false = Rows.editSectionsRow.goesBy Tryz.pinned.checked.prog := by kernel_rfl
theorem sa304 : Tryz.f3.params.all (fun t => !Tryz.prog.wantsStandIn t) = true := by kernel_rfl
theorem nm304 : Tryz.prog.funcNamed Rows.editSectionsRow.func = some 3 := by kernel_rfl
theorem proved304 : Rows.EditSectionsCardSaid :=
  Claim7.holds_tied_plain_at .later [] [.data, .data, .pinned] true (true, "8029aa35d363f64d65f5e7cfd830352ff104778d76a37d319029a474007ec5b5") false
    row304 (fun _ h => by cases h) wf304 (fun _ h => by cases h) editSections_row_tie rfl ⟨rfl, rfl⟩ mi304 rfl
    (fun f fn hf hfn => by
      obtain rfl : f = 3 := Option.some.inj (nm304.symm.trans hf) |>.symm
      obtain rfl : fn = Tryz.f3 := (Option.some.inj (Tryz.func3.symm.trans hfn)).symm
      refine ⟨lk304, fun j t ht => ?_⟩
      have hm : t ∈ Tryz.f3.params := Array.mem_of_getElem? ht
      have := Array.all_eq_true'.1 sa304 t hm
      exact (show Tryz.prog.wantsStandIn t = false by simpa using this))
    go304
end Go.Proofs.YtdnhjbdnebokiaaGreatDoor
