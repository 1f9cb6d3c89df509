/-
  DERIVED. GIVEN WITH THE SEED: THE CARDS: each row of YtdnhjbdnebokiaaGreatDoorRows.lean that lists a variable, with what it lists TIED to the program's text (the seventh form; the later family's looks); each row that meets fmt, with fmt's text TOLD by the authors' own Lean function (tested against real Go, not proved from fmt's source: count such statements apart). THE CARD IS WHAT COUNTS. Prove the row's statement (the work); the ties are given (YtdnhjbdnebokiaaGreatDoorTie.lean); close each card by the builder's one call (the guide's Derived/Test/ToyasCard.lean, 'card_holds'). Laid BY PROGRAM, IN A SANDBOX (cutbox-door.mjs). By AI agents, Wed Nov 11 2026. No macro, syntax, notation, axiom, sorry.
-/
import Derived.Test.YtdnhjbdnebokiaaGreatDoorRows
import GoSem.ClaimSeven
namespace Go.Proofs.YtdnhjbdnebokiaaGreatDoor
namespace Rows

/-- THE TIED CARD OF 'trclaw29.EditSections'. -/
def editSectionsCard : Claim7 := { stood := { row := editSectionsRow, standIns := [], harness := (true, "8029aa35d363f64d65f5e7cfd830352ff104778d76a37d319029a474007ec5b5"), looks := false }, kinds := [], alts := [], laidByText := true, laidKinds := [.data, .data, .pinned], laidTests := true, laidLooks := .later }
def EditSectionsCardSaid : Prop := Claim7.holds Tryz.pinned (.plain (OpenSpec.ofChange editSectionsSpec)) editSectionsCard

/-- THE SECOND FORM's CARD OF 'trclaw29.EditSections'. -/
def editSectionsUptoCard : Claim7 := { stood := { row := editSectionsUptoRow, standIns := [], harness := (true, "8029aa35d363f64d65f5e7cfd830352ff104778d76a37d319029a474007ec5b5"), looks := false }, kinds := [], alts := [], laidByText := true, laidKinds := [.data, .data, .pinned], laidTests := true, laidLooks := .later }
def EditSectionsUptoCardSaid : Prop := Claim7.holds Tryz.pinned (.plain (OpenSpec.upto editSectionsSpec)) editSectionsUptoCard
end Rows
end Go.Proofs.YtdnhjbdnebokiaaGreatDoor
