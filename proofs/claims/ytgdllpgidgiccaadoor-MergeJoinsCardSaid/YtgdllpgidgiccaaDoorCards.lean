/-
  DERIVED. GIVEN WITH THE SEED: THE CARDS: each row of YtgdllpgidgiccaaDoorRows.lean that lists a variable, with what it lists TIED to the program's text (the seventh form; the later family's looks); each row that meets fmt, with fmt's text TOLD by the authors' own Lean function (tested against real Go, not proved from fmt's source: count such statements apart). THE CARD IS WHAT COUNTS. Prove the row's statement (the work); the ties are given (YtgdllpgidgiccaaDoorTie.lean); close each card by the builder's one call (the guide's Derived/Test/ToyasCard.lean, 'card_holds'). Laid BY PROGRAM, IN A SANDBOX (cutbox-door.mjs). By AI agents, Wed Nov 11 2026. No macro, syntax, notation, axiom, sorry.
-/
import Derived.Test.YtgdllpgidgiccaaDoorRows
import GoSem.ClaimSeven
namespace Go.Proofs.YtgdllpgidgiccaaDoor
namespace Rows

/-- THE TIED CARD OF 'trclaw23.MergeJoins'. -/
def mergeJoinsCard : Claim7 := { stood := { row := mergeJoinsRow, standIns := [], harness := (true, "9ab575443d5e6b33a95caf280cb4ea306acd731cc422cc5acabba7866bb0a46b"), looks := false }, kinds := [], alts := [], laidByText := true, laidKinds := [.data, .pinned], laidTests := true, laidLooks := .later }
def MergeJoinsCardSaid : Prop := Claim7.holds Tryd.pinned (.plain (OpenSpec.ofChange mergeJoinsSpec)) mergeJoinsCard

/-- THE SECOND FORM's CARD OF 'trclaw23.MergeJoins'. -/
def mergeJoinsUptoCard : Claim7 := { stood := { row := mergeJoinsUptoRow, standIns := [], harness := (true, "9ab575443d5e6b33a95caf280cb4ea306acd731cc422cc5acabba7866bb0a46b"), looks := false }, kinds := [], alts := [], laidByText := true, laidKinds := [.data, .pinned], laidTests := true, laidLooks := .later }
def MergeJoinsUptoCardSaid : Prop := Claim7.holds Tryd.pinned (.plain (OpenSpec.upto mergeJoinsSpec)) mergeJoinsUptoCard
end Rows
end Go.Proofs.YtgdllpgidgiccaaDoor
