/-
  DERIVED. GIVEN WITH THE SEED: THE CARDS: each row of YtcmnepgnkcoiiaaGreatDoorRows.lean that lists a variable, with what it lists TIED to the program's text (the seventh form; the later family's looks); each row that meets fmt, with fmt's text TOLD by the authors' own Lean function (tested against real Go, not proved from fmt's source: count such statements apart). THE CARD IS WHAT COUNTS. Prove the row's statement (the work); the ties are given (YtcmnepgnkcoiiaaGreatDoorTie.lean); close each card by the builder's one call (the guide's Derived/Test/ToyasCard.lean, 'card_holds'). Laid BY PROGRAM, IN A SANDBOX (cutbox-door.mjs). By AI agents, Wed Nov 11 2026. No macro, syntax, notation, axiom, sorry.
-/
import Derived.Test.YtcmnepgnkcoiiaaGreatDoorRows
import GoSem.ClaimSeven
namespace Go.Proofs.YtcmnepgnkcoiiaaGreatDoor
namespace Rows

/-- THE TIED CARD OF 'trclaw13.AccessGroups'. -/
def accessGroupsCard : Claim7 := { stood := { row := accessGroupsRow, standIns := [], harness := (true, "ecc2c47b55c2b91b913aad01e5f4e4bc3f3a1142f19cff223f6df41f96a8f9c7"), looks := false }, kinds := [], alts := [], laidByText := true, laidKinds := [.data, .pinned], laidTests := true, laidLooks := .later }
def AccessGroupsCardSaid : Prop := Claim7.holds Tryz.pinned (.plain (OpenSpec.ofChange accessGroupsSpec)) accessGroupsCard

/-- THE TIED CARD OF 'trclaw13.AccessClosed'. -/
def accessClosedCard : Claim7 := { stood := { row := accessClosedRow, standIns := [], harness := (true, "ecc2c47b55c2b91b913aad01e5f4e4bc3f3a1142f19cff223f6df41f96a8f9c7"), looks := false }, kinds := [], alts := [], laidByText := true, laidKinds := [.data, .pinned], laidTests := true, laidLooks := .later }
def AccessClosedCardSaid : Prop := Claim7.holds Tryz.pinned (.plain (OpenSpec.ofChange accessClosedSpec)) accessClosedCard

/-- THE TIED CARD OF 'trclaw13.AccessMay'. -/
def accessMayCard : Claim7 := { stood := { row := accessMayRow, standIns := [], harness := (true, "ecc2c47b55c2b91b913aad01e5f4e4bc3f3a1142f19cff223f6df41f96a8f9c7"), looks := false }, kinds := [], alts := [], laidByText := true, laidKinds := [.data, .pinned], laidTests := true, laidLooks := .later }
def AccessMayCardSaid : Prop := Claim7.holds Tryz.pinned (.plain (OpenSpec.ofChange accessMaySpec)) accessMayCard

/-- THE TIED CARD OF 'trclaw13.AccessDecides'. -/
def accessDecidesCard : Claim7 := { stood := { row := accessDecidesRow, standIns := [], harness := (true, "ecc2c47b55c2b91b913aad01e5f4e4bc3f3a1142f19cff223f6df41f96a8f9c7"), looks := false }, kinds := [], alts := [], laidByText := true, laidKinds := [.data, .pinned], laidTests := true, laidLooks := .later }
def AccessDecidesCardSaid : Prop := Claim7.holds Tryz.pinned (.plain (OpenSpec.ofChange accessDecidesSpec)) accessDecidesCard

/-- THE TIED CARD OF 'trclaw13.AccessNearest'. -/
def accessNearestCard : Claim7 := { stood := { row := accessNearestRow, standIns := [], harness := (true, "ecc2c47b55c2b91b913aad01e5f4e4bc3f3a1142f19cff223f6df41f96a8f9c7"), looks := false }, kinds := [], alts := [], laidByText := true, laidKinds := [.data, .pinned], laidTests := true, laidLooks := .later }
def AccessNearestCardSaid : Prop := Claim7.holds Tryz.pinned (.plain (OpenSpec.ofChange accessNearestSpec)) accessNearestCard

/-- THE TIED CARD OF 'trclaw13.AccessInherits'. -/
def accessInheritsCard : Claim7 := { stood := { row := accessInheritsRow, standIns := [], harness := (true, "ecc2c47b55c2b91b913aad01e5f4e4bc3f3a1142f19cff223f6df41f96a8f9c7"), looks := false }, kinds := [], alts := [], laidByText := true, laidKinds := [.data, .pinned], laidTests := true, laidLooks := .later }
def AccessInheritsCardSaid : Prop := Claim7.holds Tryz.pinned (.plain (OpenSpec.ofChange accessInheritsSpec)) accessInheritsCard

/-- THE TIED CARD OF 'trclaw13.AccessChange'. -/
def accessChangeCard : Claim7 := { stood := { row := accessChangeRow, standIns := [], harness := (true, "ecc2c47b55c2b91b913aad01e5f4e4bc3f3a1142f19cff223f6df41f96a8f9c7"), looks := false }, kinds := [], alts := [], laidByText := true, laidKinds := [.data, .pinned], laidTests := true, laidLooks := .later }
def AccessChangeCardSaid : Prop := Claim7.holds Tryz.pinned (.plain (OpenSpec.ofChange accessChangeSpec)) accessChangeCard

/-- THE TIED CARD OF 'trclaw13.AccessGuards'. -/
def accessGuardsCard : Claim7 := { stood := { row := accessGuardsRow, standIns := [], harness := (true, "ecc2c47b55c2b91b913aad01e5f4e4bc3f3a1142f19cff223f6df41f96a8f9c7"), looks := false }, kinds := [], alts := [], laidByText := true, laidKinds := [.data, .pinned], laidTests := true, laidLooks := .later }
def AccessGuardsCardSaid : Prop := Claim7.holds Tryz.pinned (.plain (OpenSpec.ofChange accessGuardsSpec)) accessGuardsCard

/-- THE TIED CARD OF 'trclaw13.AccessSections'. -/
def accessSectionsCard : Claim7 := { stood := { row := accessSectionsRow, standIns := [], harness := (true, "ecc2c47b55c2b91b913aad01e5f4e4bc3f3a1142f19cff223f6df41f96a8f9c7"), looks := false }, kinds := [], alts := [], laidByText := true, laidKinds := [.data, .pinned], laidTests := true, laidLooks := .later }
def AccessSectionsCardSaid : Prop := Claim7.holds Tryz.pinned (.plain (OpenSpec.ofChange accessSectionsSpec)) accessSectionsCard

/-- THE TIED CARD OF 'trclaw13.AccessLevels'. -/
def accessLevelsCard : Claim7 := { stood := { row := accessLevelsRow, standIns := [], harness := (true, "ecc2c47b55c2b91b913aad01e5f4e4bc3f3a1142f19cff223f6df41f96a8f9c7"), looks := false }, kinds := [], alts := [], laidByText := true, laidKinds := [.data, .pinned], laidTests := true, laidLooks := .later }
def AccessLevelsCardSaid : Prop := Claim7.holds Tryz.pinned (.plain (OpenSpec.ofChange accessLevelsSpec)) accessLevelsCard

/-- THE SECOND FORM's CARD OF 'trclaw13.AccessGroups'. -/
def accessGroupsUptoCard : Claim7 := { stood := { row := accessGroupsUptoRow, standIns := [], harness := (true, "ecc2c47b55c2b91b913aad01e5f4e4bc3f3a1142f19cff223f6df41f96a8f9c7"), looks := false }, kinds := [], alts := [], laidByText := true, laidKinds := [.data, .pinned], laidTests := true, laidLooks := .later }
def AccessGroupsUptoCardSaid : Prop := Claim7.holds Tryz.pinned (.plain (OpenSpec.upto accessGroupsSpec)) accessGroupsUptoCard

/-- THE SECOND FORM's CARD OF 'trclaw13.AccessClosed'. -/
def accessClosedUptoCard : Claim7 := { stood := { row := accessClosedUptoRow, standIns := [], harness := (true, "ecc2c47b55c2b91b913aad01e5f4e4bc3f3a1142f19cff223f6df41f96a8f9c7"), looks := false }, kinds := [], alts := [], laidByText := true, laidKinds := [.data, .pinned], laidTests := true, laidLooks := .later }
def AccessClosedUptoCardSaid : Prop := Claim7.holds Tryz.pinned (.plain (OpenSpec.upto accessClosedSpec)) accessClosedUptoCard

/-- THE SECOND FORM's CARD OF 'trclaw13.AccessMay'. -/
def accessMayUptoCard : Claim7 := { stood := { row := accessMayUptoRow, standIns := [], harness := (true, "ecc2c47b55c2b91b913aad01e5f4e4bc3f3a1142f19cff223f6df41f96a8f9c7"), looks := false }, kinds := [], alts := [], laidByText := true, laidKinds := [.data, .pinned], laidTests := true, laidLooks := .later }
def AccessMayUptoCardSaid : Prop := Claim7.holds Tryz.pinned (.plain (OpenSpec.upto accessMaySpec)) accessMayUptoCard

/-- THE SECOND FORM's CARD OF 'trclaw13.AccessDecides'. -/
def accessDecidesUptoCard : Claim7 := { stood := { row := accessDecidesUptoRow, standIns := [], harness := (true, "ecc2c47b55c2b91b913aad01e5f4e4bc3f3a1142f19cff223f6df41f96a8f9c7"), looks := false }, kinds := [], alts := [], laidByText := true, laidKinds := [.data, .pinned], laidTests := true, laidLooks := .later }
def AccessDecidesUptoCardSaid : Prop := Claim7.holds Tryz.pinned (.plain (OpenSpec.upto accessDecidesSpec)) accessDecidesUptoCard

/-- THE SECOND FORM's CARD OF 'trclaw13.AccessNearest'. -/
def accessNearestUptoCard : Claim7 := { stood := { row := accessNearestUptoRow, standIns := [], harness := (true, "ecc2c47b55c2b91b913aad01e5f4e4bc3f3a1142f19cff223f6df41f96a8f9c7"), looks := false }, kinds := [], alts := [], laidByText := true, laidKinds := [.data, .pinned], laidTests := true, laidLooks := .later }
def AccessNearestUptoCardSaid : Prop := Claim7.holds Tryz.pinned (.plain (OpenSpec.upto accessNearestSpec)) accessNearestUptoCard

/-- THE SECOND FORM's CARD OF 'trclaw13.AccessInherits'. -/
def accessInheritsUptoCard : Claim7 := { stood := { row := accessInheritsUptoRow, standIns := [], harness := (true, "ecc2c47b55c2b91b913aad01e5f4e4bc3f3a1142f19cff223f6df41f96a8f9c7"), looks := false }, kinds := [], alts := [], laidByText := true, laidKinds := [.data, .pinned], laidTests := true, laidLooks := .later }
def AccessInheritsUptoCardSaid : Prop := Claim7.holds Tryz.pinned (.plain (OpenSpec.upto accessInheritsSpec)) accessInheritsUptoCard

/-- THE SECOND FORM's CARD OF 'trclaw13.AccessChange'. -/
def accessChangeUptoCard : Claim7 := { stood := { row := accessChangeUptoRow, standIns := [], harness := (true, "ecc2c47b55c2b91b913aad01e5f4e4bc3f3a1142f19cff223f6df41f96a8f9c7"), looks := false }, kinds := [], alts := [], laidByText := true, laidKinds := [.data, .pinned], laidTests := true, laidLooks := .later }
def AccessChangeUptoCardSaid : Prop := Claim7.holds Tryz.pinned (.plain (OpenSpec.upto accessChangeSpec)) accessChangeUptoCard

/-- THE SECOND FORM's CARD OF 'trclaw13.AccessGuards'. -/
def accessGuardsUptoCard : Claim7 := { stood := { row := accessGuardsUptoRow, standIns := [], harness := (true, "ecc2c47b55c2b91b913aad01e5f4e4bc3f3a1142f19cff223f6df41f96a8f9c7"), looks := false }, kinds := [], alts := [], laidByText := true, laidKinds := [.data, .pinned], laidTests := true, laidLooks := .later }
def AccessGuardsUptoCardSaid : Prop := Claim7.holds Tryz.pinned (.plain (OpenSpec.upto accessGuardsSpec)) accessGuardsUptoCard

/-- THE SECOND FORM's CARD OF 'trclaw13.AccessSections'. -/
def accessSectionsUptoCard : Claim7 := { stood := { row := accessSectionsUptoRow, standIns := [], harness := (true, "ecc2c47b55c2b91b913aad01e5f4e4bc3f3a1142f19cff223f6df41f96a8f9c7"), looks := false }, kinds := [], alts := [], laidByText := true, laidKinds := [.data, .pinned], laidTests := true, laidLooks := .later }
def AccessSectionsUptoCardSaid : Prop := Claim7.holds Tryz.pinned (.plain (OpenSpec.upto accessSectionsSpec)) accessSectionsUptoCard

/-- THE SECOND FORM's CARD OF 'trclaw13.AccessLevels'. -/
def accessLevelsUptoCard : Claim7 := { stood := { row := accessLevelsUptoRow, standIns := [], harness := (true, "ecc2c47b55c2b91b913aad01e5f4e4bc3f3a1142f19cff223f6df41f96a8f9c7"), looks := false }, kinds := [], alts := [], laidByText := true, laidKinds := [.data, .pinned], laidTests := true, laidLooks := .later }
def AccessLevelsUptoCardSaid : Prop := Claim7.holds Tryz.pinned (.plain (OpenSpec.upto accessLevelsSpec)) accessLevelsUptoCard
end Rows
end Go.Proofs.YtcmnepgnkcoiiaaGreatDoor
