/-
  DERIVED. GIVEN WITH THE SEED: THE CARDS: each row of YtjakkhalapaofaaGreatDoorRows.lean that lists a variable, with what it lists TIED to the program's text (the seventh form; the later family's looks); each row that meets fmt, with fmt's text TOLD by the authors' own Lean function (tested against real Go, not proved from fmt's source: count such statements apart). THE CARD IS WHAT COUNTS. Prove the row's statement (the work); the ties are given (YtjakkhalapaofaaGreatDoorTie.lean); close each card by the builder's one call (the guide's Derived/Test/ToyasCard.lean, 'card_holds'). Laid BY PROGRAM, IN A SANDBOX (cutbox-door.mjs). By AI agents, Wed Nov 11 2026. No macro, syntax, notation, axiom, sorry.
-/
import Derived.Test.YtjakkhalapaofaaGreatDoorRows
import GoSem.ClaimSeven
namespace Go.Proofs.YtjakkhalapaofaaGreatDoor
namespace Rows

/-- THE TIED CARD OF 'trclaw29.EditConflict'. -/
def editConflictCard : Claim7 := { stood := { row := editConflictRow, standIns := [], harness := (true, "e1b3d20431e48e046baf6161df8e7f381538a17972db4f106e9ad3b5857ee7ff"), looks := false }, kinds := [], alts := [], laidByText := true, laidKinds := [.data, .data, .pinned], laidTests := true, laidLooks := .later }
def EditConflictCardSaid : Prop := Claim7.holds Tryz.pinned (.plain (OpenSpec.ofChange editConflictSpec)) editConflictCard

/-- THE TIED CARD OF 'trclaw29.EditGuards'. -/
def editGuardsCard : Claim7 := { stood := { row := editGuardsRow, standIns := [], harness := (true, "e1b3d20431e48e046baf6161df8e7f381538a17972db4f106e9ad3b5857ee7ff"), looks := false }, kinds := [], alts := [], laidByText := true, laidKinds := [.data, .data, .pinned], laidTests := true, laidLooks := .later }
def EditGuardsCardSaid : Prop := Claim7.holds Tryz.pinned (.plain (OpenSpec.ofChange editGuardsSpec)) editGuardsCard

/-- THE TIED CARD OF 'trclaw29.EditAccepts'. -/
def editAcceptsCard : Claim7 := { stood := { row := editAcceptsRow, standIns := [], harness := (true, "e1b3d20431e48e046baf6161df8e7f381538a17972db4f106e9ad3b5857ee7ff"), looks := false }, kinds := [], alts := [], laidByText := true, laidKinds := [.data, .data, .pinned], laidTests := true, laidLooks := .later }
def EditAcceptsCardSaid : Prop := Claim7.holds Tryz.pinned (.plain (OpenSpec.ofChange editAcceptsSpec)) editAcceptsCard

/-- THE SECOND FORM's CARD OF 'trclaw29.EditConflict'. -/
def editConflictUptoCard : Claim7 := { stood := { row := editConflictUptoRow, standIns := [], harness := (true, "e1b3d20431e48e046baf6161df8e7f381538a17972db4f106e9ad3b5857ee7ff"), looks := false }, kinds := [], alts := [], laidByText := true, laidKinds := [.data, .data, .pinned], laidTests := true, laidLooks := .later }
def EditConflictUptoCardSaid : Prop := Claim7.holds Tryz.pinned (.plain (OpenSpec.upto editConflictSpec)) editConflictUptoCard

/-- THE SECOND FORM's CARD OF 'trclaw29.EditGuards'. -/
def editGuardsUptoCard : Claim7 := { stood := { row := editGuardsUptoRow, standIns := [], harness := (true, "e1b3d20431e48e046baf6161df8e7f381538a17972db4f106e9ad3b5857ee7ff"), looks := false }, kinds := [], alts := [], laidByText := true, laidKinds := [.data, .data, .pinned], laidTests := true, laidLooks := .later }
def EditGuardsUptoCardSaid : Prop := Claim7.holds Tryz.pinned (.plain (OpenSpec.upto editGuardsSpec)) editGuardsUptoCard

/-- THE SECOND FORM's CARD OF 'trclaw29.EditAccepts'. -/
def editAcceptsUptoCard : Claim7 := { stood := { row := editAcceptsUptoRow, standIns := [], harness := (true, "e1b3d20431e48e046baf6161df8e7f381538a17972db4f106e9ad3b5857ee7ff"), looks := false }, kinds := [], alts := [], laidByText := true, laidKinds := [.data, .data, .pinned], laidTests := true, laidLooks := .later }
def EditAcceptsUptoCardSaid : Prop := Claim7.holds Tryz.pinned (.plain (OpenSpec.upto editAcceptsSpec)) editAcceptsUptoCard
end Rows
end Go.Proofs.YtjakkhalapaofaaGreatDoor
