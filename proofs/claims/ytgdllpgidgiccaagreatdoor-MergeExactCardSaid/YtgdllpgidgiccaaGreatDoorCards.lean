/-
  DERIVED. GIVEN WITH THE SEED: THE CARDS: each row of YtgdllpgidgiccaaGreatDoorRows.lean that lists a variable, with what it lists TIED to the program's text (the seventh form; the later family's looks); each row that meets fmt, with fmt's text TOLD by the authors' own Lean function (tested against real Go, not proved from fmt's source: count such statements apart). THE CARD IS WHAT COUNTS. Prove the row's statement (the work); the ties are given (YtgdllpgidgiccaaGreatDoorTie.lean); close each card by the builder's one call (the guide's Derived/Test/ToyasCard.lean, 'card_holds'). Laid BY PROGRAM, IN A SANDBOX (cutbox-door.mjs). By AI agents, Wed Nov 11 2026. No macro, syntax, notation, axiom, sorry.
-/
import Derived.Test.YtgdllpgidgiccaaGreatDoorRows
import GoSem.ClaimSeven
namespace Go.Proofs.YtgdllpgidgiccaaGreatDoor
namespace Rows

/-- THE TIED CARD OF 'trclaw23.MergeUnits'. -/
def mergeUnitsCard : Claim7 := { stood := { row := mergeUnitsRow, standIns := [], harness := (true, "8538a9ae60c057525198fbb177d47bc5be6ab6ebefe0acf9ccc1c425fd0284fe"), looks := false }, kinds := [], alts := [], laidByText := true, laidKinds := [.data, .pinned], laidTests := true, laidLooks := .later }
def MergeUnitsCardSaid : Prop := Claim7.holds Tryz.pinned (.plain (OpenSpec.ofChange mergeUnitsSpec)) mergeUnitsCard

/-- THE TIED CARD OF 'trclaw23.MergeSections'. -/
def mergeSectionsCard : Claim7 := { stood := { row := mergeSectionsRow, standIns := [], harness := (true, "8538a9ae60c057525198fbb177d47bc5be6ab6ebefe0acf9ccc1c425fd0284fe"), looks := false }, kinds := [], alts := [], laidByText := true, laidKinds := [.data, .pinned], laidTests := true, laidLooks := .later }
def MergeSectionsCardSaid : Prop := Claim7.holds Tryz.pinned (.plain (OpenSpec.ofChange mergeSectionsSpec)) mergeSectionsCard

/-- THE TIED CARD OF 'trclaw23.MergeExact'. -/
def mergeExactCard : Claim7 := { stood := { row := mergeExactRow, standIns := [], harness := (true, "8538a9ae60c057525198fbb177d47bc5be6ab6ebefe0acf9ccc1c425fd0284fe"), looks := false }, kinds := [], alts := [], laidByText := true, laidKinds := [.data, .pinned], laidTests := true, laidLooks := .later }
def MergeExactCardSaid : Prop := Claim7.holds Tryz.pinned (.plain (OpenSpec.ofChange mergeExactSpec)) mergeExactCard

/-- THE TIED CARD OF 'trclaw23.MergeTrivial'. -/
def mergeTrivialCard : Claim7 := { stood := { row := mergeTrivialRow, standIns := [], harness := (true, "8538a9ae60c057525198fbb177d47bc5be6ab6ebefe0acf9ccc1c425fd0284fe"), looks := false }, kinds := [], alts := [], laidByText := true, laidKinds := [.data, .pinned], laidTests := true, laidLooks := .later }
def MergeTrivialCardSaid : Prop := Claim7.holds Tryz.pinned (.plain (OpenSpec.ofChange mergeTrivialSpec)) mergeTrivialCard

/-- THE TIED CARD OF 'trclaw23.MergeSides'. -/
def mergeSidesCard : Claim7 := { stood := { row := mergeSidesRow, standIns := [], harness := (true, "8538a9ae60c057525198fbb177d47bc5be6ab6ebefe0acf9ccc1c425fd0284fe"), looks := false }, kinds := [], alts := [], laidByText := true, laidKinds := [.data, .pinned], laidTests := true, laidLooks := .later }
def MergeSidesCardSaid : Prop := Claim7.holds Tryz.pinned (.plain (OpenSpec.ofChange mergeSidesSpec)) mergeSidesCard

/-- THE TIED CARD OF 'trclaw23.MergeConflicts'. -/
def mergeConflictsCard : Claim7 := { stood := { row := mergeConflictsRow, standIns := [], harness := (true, "8538a9ae60c057525198fbb177d47bc5be6ab6ebefe0acf9ccc1c425fd0284fe"), looks := false }, kinds := [], alts := [], laidByText := true, laidKinds := [.data, .pinned], laidTests := true, laidLooks := .later }
def MergeConflictsCardSaid : Prop := Claim7.holds Tryz.pinned (.plain (OpenSpec.ofChange mergeConflictsSpec)) mergeConflictsCard

/-- THE SECOND FORM's CARD OF 'trclaw23.MergeUnits'. -/
def mergeUnitsUptoCard : Claim7 := { stood := { row := mergeUnitsUptoRow, standIns := [], harness := (true, "8538a9ae60c057525198fbb177d47bc5be6ab6ebefe0acf9ccc1c425fd0284fe"), looks := false }, kinds := [], alts := [], laidByText := true, laidKinds := [.data, .pinned], laidTests := true, laidLooks := .later }
def MergeUnitsUptoCardSaid : Prop := Claim7.holds Tryz.pinned (.plain (OpenSpec.upto mergeUnitsSpec)) mergeUnitsUptoCard

/-- THE SECOND FORM's CARD OF 'trclaw23.MergeSections'. -/
def mergeSectionsUptoCard : Claim7 := { stood := { row := mergeSectionsUptoRow, standIns := [], harness := (true, "8538a9ae60c057525198fbb177d47bc5be6ab6ebefe0acf9ccc1c425fd0284fe"), looks := false }, kinds := [], alts := [], laidByText := true, laidKinds := [.data, .pinned], laidTests := true, laidLooks := .later }
def MergeSectionsUptoCardSaid : Prop := Claim7.holds Tryz.pinned (.plain (OpenSpec.upto mergeSectionsSpec)) mergeSectionsUptoCard

/-- THE SECOND FORM's CARD OF 'trclaw23.MergeExact'. -/
def mergeExactUptoCard : Claim7 := { stood := { row := mergeExactUptoRow, standIns := [], harness := (true, "8538a9ae60c057525198fbb177d47bc5be6ab6ebefe0acf9ccc1c425fd0284fe"), looks := false }, kinds := [], alts := [], laidByText := true, laidKinds := [.data, .pinned], laidTests := true, laidLooks := .later }
def MergeExactUptoCardSaid : Prop := Claim7.holds Tryz.pinned (.plain (OpenSpec.upto mergeExactSpec)) mergeExactUptoCard

/-- THE SECOND FORM's CARD OF 'trclaw23.MergeTrivial'. -/
def mergeTrivialUptoCard : Claim7 := { stood := { row := mergeTrivialUptoRow, standIns := [], harness := (true, "8538a9ae60c057525198fbb177d47bc5be6ab6ebefe0acf9ccc1c425fd0284fe"), looks := false }, kinds := [], alts := [], laidByText := true, laidKinds := [.data, .pinned], laidTests := true, laidLooks := .later }
def MergeTrivialUptoCardSaid : Prop := Claim7.holds Tryz.pinned (.plain (OpenSpec.upto mergeTrivialSpec)) mergeTrivialUptoCard

/-- THE SECOND FORM's CARD OF 'trclaw23.MergeSides'. -/
def mergeSidesUptoCard : Claim7 := { stood := { row := mergeSidesUptoRow, standIns := [], harness := (true, "8538a9ae60c057525198fbb177d47bc5be6ab6ebefe0acf9ccc1c425fd0284fe"), looks := false }, kinds := [], alts := [], laidByText := true, laidKinds := [.data, .pinned], laidTests := true, laidLooks := .later }
def MergeSidesUptoCardSaid : Prop := Claim7.holds Tryz.pinned (.plain (OpenSpec.upto mergeSidesSpec)) mergeSidesUptoCard

/-- THE SECOND FORM's CARD OF 'trclaw23.MergeConflicts'. -/
def mergeConflictsUptoCard : Claim7 := { stood := { row := mergeConflictsUptoRow, standIns := [], harness := (true, "8538a9ae60c057525198fbb177d47bc5be6ab6ebefe0acf9ccc1c425fd0284fe"), looks := false }, kinds := [], alts := [], laidByText := true, laidKinds := [.data, .pinned], laidTests := true, laidLooks := .later }
def MergeConflictsUptoCardSaid : Prop := Claim7.holds Tryz.pinned (.plain (OpenSpec.upto mergeConflictsSpec)) mergeConflictsUptoCard
end Rows
end Go.Proofs.YtgdllpgidgiccaaGreatDoor
