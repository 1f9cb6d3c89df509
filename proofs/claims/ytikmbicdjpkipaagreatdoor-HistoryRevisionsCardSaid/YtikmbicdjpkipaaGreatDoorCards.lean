/-
  DERIVED. GIVEN WITH THE SEED: THE CARDS: each row of YtikmbicdjpkipaaGreatDoorRows.lean that lists a variable, with what it lists TIED to the program's text (the seventh form; the later family's looks); each row that meets fmt, with fmt's text TOLD by the authors' own Lean function (tested against real Go, not proved from fmt's source: count such statements apart). THE CARD IS WHAT COUNTS. Prove the row's statement (the work); the ties are given (YtikmbicdjpkipaaGreatDoorTie.lean); close each card by the builder's one call (the guide's Derived/Test/ToyasCard.lean, 'card_holds'). Laid BY PROGRAM, IN A SANDBOX (cutbox-door.mjs). By AI agents, Wed Nov 11 2026. No macro, syntax, notation, axiom, sorry.
-/
import Derived.Test.YtikmbicdjpkipaaGreatDoorRows
import GoSem.ClaimSeven
namespace Go.Proofs.YtikmbicdjpkipaaGreatDoor
namespace Rows

/-- THE TIED CARD OF 'trclaw30.HistoryRevisions'. -/
def historyRevisionsCard : Claim7 := { stood := { row := historyRevisionsRow, standIns := [], harness := (true, "1230da29600ffb26d2d09d5c3c92515097c8c5b9c5949644c45cc2c0b295e5e8"), looks := false }, kinds := [], alts := [], laidByText := true, laidKinds := [.data, .data, .data, .pinned], laidTests := true, laidLooks := .later }
def HistoryRevisionsCardSaid : Prop := Claim7.holds Tryz.pinned (.plain (OpenSpec.ofChange historyRevisionsSpec)) historyRevisionsCard

/-- THE TIED CARD OF 'trclaw30.HistoryDenied'. -/
def historyDeniedCard : Claim7 := { stood := { row := historyDeniedRow, standIns := [], harness := (true, "1230da29600ffb26d2d09d5c3c92515097c8c5b9c5949644c45cc2c0b295e5e8"), looks := false }, kinds := [], alts := [], laidByText := true, laidKinds := [.data, .data, .data, .pinned], laidTests := true, laidLooks := .later }
def HistoryDeniedCardSaid : Prop := Claim7.holds Tryz.pinned (.plain (OpenSpec.ofChange historyDeniedSpec)) historyDeniedCard

/-- THE TIED CARD OF 'trclaw29.EditPolicies'. -/
def editPoliciesCard : Claim7 := { stood := { row := editPoliciesRow, standIns := [], harness := (true, "1230da29600ffb26d2d09d5c3c92515097c8c5b9c5949644c45cc2c0b295e5e8"), looks := false }, kinds := [], alts := [], laidByText := true, laidKinds := [.data, .data, .pinned], laidTests := true, laidLooks := .later }
def EditPoliciesCardSaid : Prop := Claim7.holds Tryz.pinned (.plain (OpenSpec.ofChange editPoliciesSpec)) editPoliciesCard

/-- THE TIED CARD OF 'trclaw29.EditDenied'. -/
def editDeniedCard : Claim7 := { stood := { row := editDeniedRow, standIns := [], harness := (true, "1230da29600ffb26d2d09d5c3c92515097c8c5b9c5949644c45cc2c0b295e5e8"), looks := false }, kinds := [], alts := [], laidByText := true, laidKinds := [.data, .data, .pinned], laidTests := true, laidLooks := .later }
def EditDeniedCardSaid : Prop := Claim7.holds Tryz.pinned (.plain (OpenSpec.ofChange editDeniedSpec)) editDeniedCard

/-- THE SECOND FORM's CARD OF 'trclaw30.HistoryRevisions'. -/
def historyRevisionsUptoCard : Claim7 := { stood := { row := historyRevisionsUptoRow, standIns := [], harness := (true, "1230da29600ffb26d2d09d5c3c92515097c8c5b9c5949644c45cc2c0b295e5e8"), looks := false }, kinds := [], alts := [], laidByText := true, laidKinds := [.data, .data, .data, .pinned], laidTests := true, laidLooks := .later }
def HistoryRevisionsUptoCardSaid : Prop := Claim7.holds Tryz.pinned (.plain (OpenSpec.upto historyRevisionsSpec)) historyRevisionsUptoCard

/-- THE SECOND FORM's CARD OF 'trclaw30.HistoryDenied'. -/
def historyDeniedUptoCard : Claim7 := { stood := { row := historyDeniedUptoRow, standIns := [], harness := (true, "1230da29600ffb26d2d09d5c3c92515097c8c5b9c5949644c45cc2c0b295e5e8"), looks := false }, kinds := [], alts := [], laidByText := true, laidKinds := [.data, .data, .data, .pinned], laidTests := true, laidLooks := .later }
def HistoryDeniedUptoCardSaid : Prop := Claim7.holds Tryz.pinned (.plain (OpenSpec.upto historyDeniedSpec)) historyDeniedUptoCard

/-- THE SECOND FORM's CARD OF 'trclaw29.EditPolicies'. -/
def editPoliciesUptoCard : Claim7 := { stood := { row := editPoliciesUptoRow, standIns := [], harness := (true, "1230da29600ffb26d2d09d5c3c92515097c8c5b9c5949644c45cc2c0b295e5e8"), looks := false }, kinds := [], alts := [], laidByText := true, laidKinds := [.data, .data, .pinned], laidTests := true, laidLooks := .later }
def EditPoliciesUptoCardSaid : Prop := Claim7.holds Tryz.pinned (.plain (OpenSpec.upto editPoliciesSpec)) editPoliciesUptoCard

/-- THE SECOND FORM's CARD OF 'trclaw29.EditDenied'. -/
def editDeniedUptoCard : Claim7 := { stood := { row := editDeniedUptoRow, standIns := [], harness := (true, "1230da29600ffb26d2d09d5c3c92515097c8c5b9c5949644c45cc2c0b295e5e8"), looks := false }, kinds := [], alts := [], laidByText := true, laidKinds := [.data, .data, .pinned], laidTests := true, laidLooks := .later }
def EditDeniedUptoCardSaid : Prop := Claim7.holds Tryz.pinned (.plain (OpenSpec.upto editDeniedSpec)) editDeniedUptoCard
end Rows
end Go.Proofs.YtikmbicdjpkipaaGreatDoor
