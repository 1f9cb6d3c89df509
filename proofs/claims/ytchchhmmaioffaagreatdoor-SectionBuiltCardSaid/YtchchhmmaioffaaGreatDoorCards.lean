/-
  DERIVED. GIVEN WITH THE SEED: THE CARDS: each row of YtchchhmmaioffaaGreatDoorRows.lean that lists a variable, with what it lists TIED to the program's text (the seventh form; the later family's looks); each row that meets fmt, with fmt's text TOLD by the authors' own Lean function (tested against real Go, not proved from fmt's source: count such statements apart). THE CARD IS WHAT COUNTS. Prove the row's statement (the work); the ties are given (YtchchhmmaioffaaGreatDoorTie.lean); close each card by the builder's one call (the guide's Derived/Test/ToyasCard.lean, 'card_holds'). Laid BY PROGRAM, IN A SANDBOX (cutbox-door.mjs). By AI agents, Wed Nov 11 2026. No macro, syntax, notation, axiom, sorry.
-/
import Derived.Test.YtchchhmmaioffaaGreatDoorRows
import GoSem.ClaimSeven
namespace Go.Proofs.YtchchhmmaioffaaGreatDoor
namespace Rows

/-- THE TIED CARD OF 'trclaw5.SectionExact'. -/
def sectionExactCard : Claim7 := { stood := { row := sectionExactRow, standIns := [], harness := (true, "c168d825d4f1137ede3140595d19693117833cc5194dfc28b8626e03fb7a6aa3"), looks := false }, kinds := [], alts := [], laidByText := true, laidKinds := [.data, .pinned], laidTests := true, laidLooks := .later }
def SectionExactCardSaid : Prop := Claim7.holds Tryz.pinned (.plain (OpenSpec.ofChange sectionExactSpec)) sectionExactCard

/-- THE TIED CARD OF 'trclaw5.SectionBuilt'. -/
def sectionBuiltCard : Claim7 := { stood := { row := sectionBuiltRow, standIns := [], harness := (true, "c168d825d4f1137ede3140595d19693117833cc5194dfc28b8626e03fb7a6aa3"), looks := false }, kinds := [], alts := [], laidByText := true, laidKinds := [.data, .pinned], laidTests := true, laidLooks := .later }
def SectionBuiltCardSaid : Prop := Claim7.holds Tryz.pinned (.plain (OpenSpec.ofChange sectionBuiltSpec)) sectionBuiltCard

/-- THE TIED CARD OF 'trclaw5.SectionTexts'. -/
def sectionTextsCard : Claim7 := { stood := { row := sectionTextsRow, standIns := [], harness := (true, "c168d825d4f1137ede3140595d19693117833cc5194dfc28b8626e03fb7a6aa3"), looks := false }, kinds := [], alts := [], laidByText := true, laidKinds := [.data, .pinned], laidTests := true, laidLooks := .later }
def SectionTextsCardSaid : Prop := Claim7.holds Tryz.pinned (.plain (OpenSpec.ofChange sectionTextsSpec)) sectionTextsCard

/-- THE TIED CARD OF 'trclaw5.SectionReplaces'. -/
def sectionReplacesCard : Claim7 := { stood := { row := sectionReplacesRow, standIns := [], harness := (true, "c168d825d4f1137ede3140595d19693117833cc5194dfc28b8626e03fb7a6aa3"), looks := false }, kinds := [], alts := [], laidByText := true, laidKinds := [.data, .pinned], laidTests := true, laidLooks := .later }
def SectionReplacesCardSaid : Prop := Claim7.holds Tryz.pinned (.plain (OpenSpec.ofChange sectionReplacesSpec)) sectionReplacesCard

/-- THE SECOND FORM's CARD OF 'trclaw5.SectionExact'. -/
def sectionExactUptoCard : Claim7 := { stood := { row := sectionExactUptoRow, standIns := [], harness := (true, "c168d825d4f1137ede3140595d19693117833cc5194dfc28b8626e03fb7a6aa3"), looks := false }, kinds := [], alts := [], laidByText := true, laidKinds := [.data, .pinned], laidTests := true, laidLooks := .later }
def SectionExactUptoCardSaid : Prop := Claim7.holds Tryz.pinned (.plain (OpenSpec.upto sectionExactSpec)) sectionExactUptoCard

/-- THE SECOND FORM's CARD OF 'trclaw5.SectionBuilt'. -/
def sectionBuiltUptoCard : Claim7 := { stood := { row := sectionBuiltUptoRow, standIns := [], harness := (true, "c168d825d4f1137ede3140595d19693117833cc5194dfc28b8626e03fb7a6aa3"), looks := false }, kinds := [], alts := [], laidByText := true, laidKinds := [.data, .pinned], laidTests := true, laidLooks := .later }
def SectionBuiltUptoCardSaid : Prop := Claim7.holds Tryz.pinned (.plain (OpenSpec.upto sectionBuiltSpec)) sectionBuiltUptoCard

/-- THE SECOND FORM's CARD OF 'trclaw5.SectionTexts'. -/
def sectionTextsUptoCard : Claim7 := { stood := { row := sectionTextsUptoRow, standIns := [], harness := (true, "c168d825d4f1137ede3140595d19693117833cc5194dfc28b8626e03fb7a6aa3"), looks := false }, kinds := [], alts := [], laidByText := true, laidKinds := [.data, .pinned], laidTests := true, laidLooks := .later }
def SectionTextsUptoCardSaid : Prop := Claim7.holds Tryz.pinned (.plain (OpenSpec.upto sectionTextsSpec)) sectionTextsUptoCard

/-- THE SECOND FORM's CARD OF 'trclaw5.SectionReplaces'. -/
def sectionReplacesUptoCard : Claim7 := { stood := { row := sectionReplacesUptoRow, standIns := [], harness := (true, "c168d825d4f1137ede3140595d19693117833cc5194dfc28b8626e03fb7a6aa3"), looks := false }, kinds := [], alts := [], laidByText := true, laidKinds := [.data, .pinned], laidTests := true, laidLooks := .later }
def SectionReplacesUptoCardSaid : Prop := Claim7.holds Tryz.pinned (.plain (OpenSpec.upto sectionReplacesSpec)) sectionReplacesUptoCard
end Rows
end Go.Proofs.YtchchhmmaioffaaGreatDoor
