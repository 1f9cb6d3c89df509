/-
  NARROWER THAN 'FOR EVERY INPUT', by the rows' own cells (each row's printed sentence says how): AccessGroups: laid · AccessClosed: laid · AccessMay: laid · AccessDecides: laid · AccessNearest: laid · AccessInherits: laid · AccessChange: laid · AccessGuards: laid · AccessSections: laid · AccessLevels: laid.
  DERIVED. THE GIVEN ROWS OF THIS SEAT. 10 by the template 'for every input the law returns true; each argument reads behind the call as it read before'; 0 by the template 'total and deterministic' (their statements: YtcmnepgnkcoiiaaGreatDoorTotals.lean).
  GIVEN WITH THE SEED: the statements are not yours to turn. If you find one false, say at which input.
  Laid BY PROGRAM, IN A SANDBOX (cutbox-rows.mjs): the forced cells as the released guide's own fill.sh prints them over the translation 7b4ffafe6ae550d7… (all of the seat's roots in one cut). By AI agents, Wed Nov 11 2026. No macro, syntax, notation, axiom, sorry.
-/
import Derived.Test.YtcmnepgnkcoiiaaGreatDoorChecked
import GoSem.PinnedTables
import GoSem.Claim
import GoSem.ClaimJoined
import GoSem.ClaimMapViews
import Derived.JoinedTies
import Derived.KernelRfl
namespace Go.Proofs.YtcmnepgnkcoiiaaGreatDoor
/- THE CELL 'sum', in the pinned program and in every row, IS THE sha256 OF THE DUMP (.gsa) THAT YtcmnepgnkcoiiaaGreatDoorProg.lean LOADS. Nothing in Lean hashes anything: it is a label: what it is worth is what the hold of that sum in a sandbox is worth. -/
noncomputable def Tryz.pinned : Pinned := { name := "ytcmnepgnkcoiiaagreatdoor", sum := "7b4ffafe6ae550d7e8c189e636fdd17f66d1a8e33a0cb83f416c52a83c98b037", checked := Tryz.checked }
namespace Rows
def none {H : Type} : Left H := { results := [], args := [] }

/- WHAT THE LISTED PACKAGE-LEVEL VARIABLES READ AS WHEN THE CALL BEGINS. Each datum BY PROGRAM (the guide's laid-datum.mjs) off the statement by which the dump's own 'gosem.cut.vars' lays the variable. In a bare row this is a premise. The card (YtcmnepgnkcoiiaaGreatDoorCards.lean) ties it to the program's text. -/
def laid_unicode_utf8_acceptRanges {H : Type} : DataW H := .agg [.agg [.lit (.int .u8 128), .lit (.int .u8 191)], .agg [.lit (.int .u8 160), .lit (.int .u8 191)], .agg [.lit (.int .u8 128), .lit (.int .u8 159)], .agg [.lit (.int .u8 144), .lit (.int .u8 191)], .agg [.lit (.int .u8 128), .lit (.int .u8 143)], .agg [.lit (.int .u8 0), .lit (.int .u8 0)], .agg [.lit (.int .u8 0), .lit (.int .u8 0)], .agg [.lit (.int .u8 0), .lit (.int .u8 0)], .agg [.lit (.int .u8 0), .lit (.int .u8 0)], .agg [.lit (.int .u8 0), .lit (.int .u8 0)], .agg [.lit (.int .u8 0), .lit (.int .u8 0)], .agg [.lit (.int .u8 0), .lit (.int .u8 0)], .agg [.lit (.int .u8 0), .lit (.int .u8 0)], .agg [.lit (.int .u8 0), .lit (.int .u8 0)], .agg [.lit (.int .u8 0), .lit (.int .u8 0)], .agg [.lit (.int .u8 0), .lit (.int .u8 0)]]
/-- One of Go's own tables, pinned by name: the form's constant. -/
def laid_unicode_utf8_first : DataW Unit := Go.Pinned.utf8First

/-- 'trclaw13.AccessGroups': WHATEVER THE INPUT: true; the input reads as it did. -/
def accessGroupsSpec : ChangeSpec := { name := "accessGroups", fn := fun _ => fun
  | [d1, d2, d3] => { results := [.lit (.bool true)], args := [d1, d2, d3] }
  | _ => none }
def accessGroupsRow : OpenClaim := { program := "ytcmnepgnkcoiiaagreatdoor", sum := "7b4ffafe6ae550d7e8c189e636fdd17f66d1a8e33a0cb83f416c52a83c98b037", func := "transclude/trclaw13.AccessGroups", spec := "accessGroups", inPlace := ["internal/bytealg.IndexByteString", "internal/bytealg.CountString", "internal/bytealg.IndexString", "internal/abi.NoEscape", "internal/bytealg.MakeNoZero"], unfollowed := true, recurses := true, named := ["unicode/utf8.first", "unicode/utf8.acceptRanges", "internal/bytealg.MaxLen"], apart := false, laid := [("unicode/utf8.acceptRanges", laid_unicode_utf8_acceptRanges), ("unicode/utf8.first", laid_unicode_utf8_first)] }
def AccessGroupsSaid : Prop := accessGroupsRow.holds Tryz.pinned (OpenSpec.ofChange accessGroupsSpec)

/-- ITS FALSE NEIGHBOUR: 'it returns false'. Refute it at one input. -/
def accessGroupsWrong : ChangeSpec := { name := "accessGroups", fn := fun _ => fun
  | [d1, d2, d3] => { results := [.lit (.bool false)], args := [d1, d2, d3] }
  | _ => none }
def AccessGroupsWrongFalsely : Prop := accessGroupsRow.holds Tryz.pinned (OpenSpec.ofChange accessGroupsWrong)

/-- 'trclaw13.AccessClosed': WHATEVER THE INPUT: true; the input reads as it did. -/
def accessClosedSpec : ChangeSpec := { name := "accessClosed", fn := fun _ => fun
  | [d] => { results := [.lit (.bool true)], args := [d] }
  | _ => none }
def accessClosedRow : OpenClaim := { program := "ytcmnepgnkcoiiaagreatdoor", sum := "7b4ffafe6ae550d7e8c189e636fdd17f66d1a8e33a0cb83f416c52a83c98b037", func := "transclude/trclaw13.AccessClosed", spec := "accessClosed", inPlace := ["internal/bytealg.IndexByteString", "internal/bytealg.CountString", "internal/bytealg.IndexString", "internal/abi.NoEscape", "internal/bytealg.MakeNoZero"], unfollowed := true, recurses := true, named := ["unicode/utf8.first", "unicode/utf8.acceptRanges", "internal/bytealg.MaxLen"], apart := false, laid := [("unicode/utf8.acceptRanges", laid_unicode_utf8_acceptRanges), ("unicode/utf8.first", laid_unicode_utf8_first)] }
def AccessClosedSaid : Prop := accessClosedRow.holds Tryz.pinned (OpenSpec.ofChange accessClosedSpec)

/-- ITS FALSE NEIGHBOUR: 'it returns false'. Refute it at one input. -/
def accessClosedWrong : ChangeSpec := { name := "accessClosed", fn := fun _ => fun
  | [d] => { results := [.lit (.bool false)], args := [d] }
  | _ => none }
def AccessClosedWrongFalsely : Prop := accessClosedRow.holds Tryz.pinned (OpenSpec.ofChange accessClosedWrong)

/-- 'trclaw13.AccessMay': WHATEVER THE INPUT: true; the input reads as it did. -/
def accessMaySpec : ChangeSpec := { name := "accessMay", fn := fun _ => fun
  | [d1, d2, d3, d4] => { results := [.lit (.bool true)], args := [d1, d2, d3, d4] }
  | _ => none }
def accessMayRow : OpenClaim := { program := "ytcmnepgnkcoiiaagreatdoor", sum := "7b4ffafe6ae550d7e8c189e636fdd17f66d1a8e33a0cb83f416c52a83c98b037", func := "transclude/trclaw13.AccessMay", spec := "accessMay", inPlace := ["internal/bytealg.IndexByteString", "internal/bytealg.CountString", "internal/bytealg.IndexString", "internal/abi.NoEscape", "internal/bytealg.MakeNoZero"], unfollowed := true, recurses := true, named := ["unicode/utf8.first", "unicode/utf8.acceptRanges", "internal/bytealg.MaxLen"], apart := false, laid := [("unicode/utf8.acceptRanges", laid_unicode_utf8_acceptRanges), ("unicode/utf8.first", laid_unicode_utf8_first)] }
def AccessMaySaid : Prop := accessMayRow.holds Tryz.pinned (OpenSpec.ofChange accessMaySpec)

/-- ITS FALSE NEIGHBOUR: 'it returns false'. Refute it at one input. -/
def accessMayWrong : ChangeSpec := { name := "accessMay", fn := fun _ => fun
  | [d1, d2, d3, d4] => { results := [.lit (.bool false)], args := [d1, d2, d3, d4] }
  | _ => none }
def AccessMayWrongFalsely : Prop := accessMayRow.holds Tryz.pinned (OpenSpec.ofChange accessMayWrong)

/-- 'trclaw13.AccessDecides': WHATEVER THE INPUT: true; the input reads as it did. -/
def accessDecidesSpec : ChangeSpec := { name := "accessDecides", fn := fun _ => fun
  | [d] => { results := [.lit (.bool true)], args := [d] }
  | _ => none }
def accessDecidesRow : OpenClaim := { program := "ytcmnepgnkcoiiaagreatdoor", sum := "7b4ffafe6ae550d7e8c189e636fdd17f66d1a8e33a0cb83f416c52a83c98b037", func := "transclude/trclaw13.AccessDecides", spec := "accessDecides", inPlace := ["internal/bytealg.IndexByteString", "internal/bytealg.CountString", "internal/bytealg.IndexString", "internal/abi.NoEscape", "internal/bytealg.MakeNoZero"], unfollowed := true, recurses := true, named := ["unicode/utf8.first", "unicode/utf8.acceptRanges", "internal/bytealg.MaxLen"], apart := false, laid := [("unicode/utf8.acceptRanges", laid_unicode_utf8_acceptRanges), ("unicode/utf8.first", laid_unicode_utf8_first)] }
def AccessDecidesSaid : Prop := accessDecidesRow.holds Tryz.pinned (OpenSpec.ofChange accessDecidesSpec)

/-- ITS FALSE NEIGHBOUR: 'it returns false'. Refute it at one input. -/
def accessDecidesWrong : ChangeSpec := { name := "accessDecides", fn := fun _ => fun
  | [d] => { results := [.lit (.bool false)], args := [d] }
  | _ => none }
def AccessDecidesWrongFalsely : Prop := accessDecidesRow.holds Tryz.pinned (OpenSpec.ofChange accessDecidesWrong)

/-- 'trclaw13.AccessNearest': WHATEVER THE INPUT: true; the input reads as it did. -/
def accessNearestSpec : ChangeSpec := { name := "accessNearest", fn := fun _ => fun
  | [d1, d2, d3] => { results := [.lit (.bool true)], args := [d1, d2, d3] }
  | _ => none }
def accessNearestRow : OpenClaim := { program := "ytcmnepgnkcoiiaagreatdoor", sum := "7b4ffafe6ae550d7e8c189e636fdd17f66d1a8e33a0cb83f416c52a83c98b037", func := "transclude/trclaw13.AccessNearest", spec := "accessNearest", inPlace := ["internal/bytealg.IndexByteString", "internal/bytealg.CountString", "internal/bytealg.IndexString", "internal/abi.NoEscape", "internal/bytealg.MakeNoZero"], unfollowed := true, recurses := true, named := ["unicode/utf8.first", "unicode/utf8.acceptRanges", "internal/bytealg.MaxLen"], apart := false, laid := [("unicode/utf8.acceptRanges", laid_unicode_utf8_acceptRanges), ("unicode/utf8.first", laid_unicode_utf8_first)] }
def AccessNearestSaid : Prop := accessNearestRow.holds Tryz.pinned (OpenSpec.ofChange accessNearestSpec)

/-- ITS FALSE NEIGHBOUR: 'it returns false'. Refute it at one input. -/
def accessNearestWrong : ChangeSpec := { name := "accessNearest", fn := fun _ => fun
  | [d1, d2, d3] => { results := [.lit (.bool false)], args := [d1, d2, d3] }
  | _ => none }
def AccessNearestWrongFalsely : Prop := accessNearestRow.holds Tryz.pinned (OpenSpec.ofChange accessNearestWrong)

/-- 'trclaw13.AccessInherits': WHATEVER THE INPUT: true; the input reads as it did. -/
def accessInheritsSpec : ChangeSpec := { name := "accessInherits", fn := fun _ => fun
  | [d1, d2] => { results := [.lit (.bool true)], args := [d1, d2] }
  | _ => none }
def accessInheritsRow : OpenClaim := { program := "ytcmnepgnkcoiiaagreatdoor", sum := "7b4ffafe6ae550d7e8c189e636fdd17f66d1a8e33a0cb83f416c52a83c98b037", func := "transclude/trclaw13.AccessInherits", spec := "accessInherits", inPlace := ["internal/bytealg.IndexByteString", "internal/bytealg.CountString", "internal/bytealg.IndexString", "internal/abi.NoEscape", "internal/bytealg.MakeNoZero"], unfollowed := true, recurses := true, named := ["unicode/utf8.first", "unicode/utf8.acceptRanges", "internal/bytealg.MaxLen"], apart := false, laid := [("unicode/utf8.acceptRanges", laid_unicode_utf8_acceptRanges), ("unicode/utf8.first", laid_unicode_utf8_first)] }
def AccessInheritsSaid : Prop := accessInheritsRow.holds Tryz.pinned (OpenSpec.ofChange accessInheritsSpec)

/-- ITS FALSE NEIGHBOUR: 'it returns false'. Refute it at one input. -/
def accessInheritsWrong : ChangeSpec := { name := "accessInherits", fn := fun _ => fun
  | [d1, d2] => { results := [.lit (.bool false)], args := [d1, d2] }
  | _ => none }
def AccessInheritsWrongFalsely : Prop := accessInheritsRow.holds Tryz.pinned (OpenSpec.ofChange accessInheritsWrong)

/-- 'trclaw13.AccessChange': WHATEVER THE INPUT: true; the input reads as it did. -/
def accessChangeSpec : ChangeSpec := { name := "accessChange", fn := fun _ => fun
  | [d1, d2, d3, d4, d5] => { results := [.lit (.bool true)], args := [d1, d2, d3, d4, d5] }
  | _ => none }
def accessChangeRow : OpenClaim := { program := "ytcmnepgnkcoiiaagreatdoor", sum := "7b4ffafe6ae550d7e8c189e636fdd17f66d1a8e33a0cb83f416c52a83c98b037", func := "transclude/trclaw13.AccessChange", spec := "accessChange", inPlace := ["internal/bytealg.IndexByteString", "internal/bytealg.CountString", "internal/bytealg.IndexString", "internal/abi.NoEscape", "internal/bytealg.MakeNoZero"], unfollowed := true, recurses := true, named := ["unicode/utf8.first", "unicode/utf8.acceptRanges", "internal/bytealg.MaxLen"], apart := false, laid := [("unicode/utf8.acceptRanges", laid_unicode_utf8_acceptRanges), ("unicode/utf8.first", laid_unicode_utf8_first)] }
def AccessChangeSaid : Prop := accessChangeRow.holds Tryz.pinned (OpenSpec.ofChange accessChangeSpec)

/-- ITS FALSE NEIGHBOUR: 'it returns false'. Refute it at one input. -/
def accessChangeWrong : ChangeSpec := { name := "accessChange", fn := fun _ => fun
  | [d1, d2, d3, d4, d5] => { results := [.lit (.bool false)], args := [d1, d2, d3, d4, d5] }
  | _ => none }
def AccessChangeWrongFalsely : Prop := accessChangeRow.holds Tryz.pinned (OpenSpec.ofChange accessChangeWrong)

/-- 'trclaw13.AccessGuards': WHATEVER THE INPUT: true; the input reads as it did. -/
def accessGuardsSpec : ChangeSpec := { name := "accessGuards", fn := fun _ => fun
  | [d] => { results := [.lit (.bool true)], args := [d] }
  | _ => none }
def accessGuardsRow : OpenClaim := { program := "ytcmnepgnkcoiiaagreatdoor", sum := "7b4ffafe6ae550d7e8c189e636fdd17f66d1a8e33a0cb83f416c52a83c98b037", func := "transclude/trclaw13.AccessGuards", spec := "accessGuards", inPlace := ["internal/bytealg.IndexByteString", "internal/bytealg.IndexString", "internal/abi.NoEscape", "internal/bytealg.MakeNoZero", "internal/bytealg.CountString"], unfollowed := true, recurses := true, named := ["internal/bytealg.MaxLen", "unicode/utf8.first", "unicode/utf8.acceptRanges"], apart := false, laid := [("unicode/utf8.acceptRanges", laid_unicode_utf8_acceptRanges), ("unicode/utf8.first", laid_unicode_utf8_first)] }
def AccessGuardsSaid : Prop := accessGuardsRow.holds Tryz.pinned (OpenSpec.ofChange accessGuardsSpec)

/-- ITS FALSE NEIGHBOUR: 'it returns false'. Refute it at one input. -/
def accessGuardsWrong : ChangeSpec := { name := "accessGuards", fn := fun _ => fun
  | [d] => { results := [.lit (.bool false)], args := [d] }
  | _ => none }
def AccessGuardsWrongFalsely : Prop := accessGuardsRow.holds Tryz.pinned (OpenSpec.ofChange accessGuardsWrong)

/-- 'trclaw13.AccessSections': WHATEVER THE INPUT: true; the input reads as it did. -/
def accessSectionsSpec : ChangeSpec := { name := "accessSections", fn := fun _ => fun
  | [d1, d2, d3] => { results := [.lit (.bool true)], args := [d1, d2, d3] }
  | _ => none }
def accessSectionsRow : OpenClaim := { program := "ytcmnepgnkcoiiaagreatdoor", sum := "7b4ffafe6ae550d7e8c189e636fdd17f66d1a8e33a0cb83f416c52a83c98b037", func := "transclude/trclaw13.AccessSections", spec := "accessSections", inPlace := ["internal/bytealg.IndexByteString", "internal/bytealg.CountString", "internal/bytealg.IndexString", "internal/abi.NoEscape", "internal/bytealg.MakeNoZero"], unfollowed := true, recurses := true, named := ["unicode/utf8.first", "unicode/utf8.acceptRanges", "internal/bytealg.MaxLen"], apart := false, laid := [("unicode/utf8.acceptRanges", laid_unicode_utf8_acceptRanges), ("unicode/utf8.first", laid_unicode_utf8_first)] }
def AccessSectionsSaid : Prop := accessSectionsRow.holds Tryz.pinned (OpenSpec.ofChange accessSectionsSpec)

/-- ITS FALSE NEIGHBOUR: 'it returns false'. Refute it at one input. -/
def accessSectionsWrong : ChangeSpec := { name := "accessSections", fn := fun _ => fun
  | [d1, d2, d3] => { results := [.lit (.bool false)], args := [d1, d2, d3] }
  | _ => none }
def AccessSectionsWrongFalsely : Prop := accessSectionsRow.holds Tryz.pinned (OpenSpec.ofChange accessSectionsWrong)

/-- 'trclaw13.AccessLevels': WHATEVER THE INPUT: true; the input reads as it did. -/
def accessLevelsSpec : ChangeSpec := { name := "accessLevels", fn := fun _ => fun
  | [d1, d2, d3] => { results := [.lit (.bool true)], args := [d1, d2, d3] }
  | _ => none }
def accessLevelsRow : OpenClaim := { program := "ytcmnepgnkcoiiaagreatdoor", sum := "7b4ffafe6ae550d7e8c189e636fdd17f66d1a8e33a0cb83f416c52a83c98b037", func := "transclude/trclaw13.AccessLevels", spec := "accessLevels", inPlace := ["internal/bytealg.IndexByteString", "internal/bytealg.CountString", "internal/bytealg.IndexString", "internal/abi.NoEscape", "internal/bytealg.MakeNoZero"], unfollowed := true, recurses := true, named := ["unicode/utf8.first", "unicode/utf8.acceptRanges", "internal/bytealg.MaxLen"], apart := false, laid := [("unicode/utf8.acceptRanges", laid_unicode_utf8_acceptRanges), ("unicode/utf8.first", laid_unicode_utf8_first)] }
def AccessLevelsSaid : Prop := accessLevelsRow.holds Tryz.pinned (OpenSpec.ofChange accessLevelsSpec)

/-- ITS FALSE NEIGHBOUR: 'it returns false'. Refute it at one input. -/
def accessLevelsWrong : ChangeSpec := { name := "accessLevels", fn := fun _ => fun
  | [d1, d2, d3] => { results := [.lit (.bool false)], args := [d1, d2, d3] }
  | _ => none }
def AccessLevelsWrongFalsely : Prop := accessLevelsRow.holds Tryz.pinned (OpenSpec.ofChange accessLevelsWrong)

/- THE SECOND FORM. 'bulk': how many values and letters a reading holds, each counted each time it is reached (what is shared counts as often as it is met; a slice's spare places count too). A statement '..UptoSaid' is the law's where the arguments, and the package variables that the reading takes, are together of bulk at most 1048576: NARROWER than '..Said'. Prove '..Said' where nothing that the law and all that it calls make is longer than what came in: it says more and counts as full. Else prove '..UptoSaid'. A law counts once. -/
mutual
def uptoBulk {H : Type} : DataW H → Nat
  | .lit (.string bytes) => bytes.length + 1
  | .lit _ => 1
  | .nil => 1
  | .ptr d => uptoBulk d + 1
  | .slice elems spare => uptoBulkAll elems + uptoBulkAll spare + 1
  | .agg parts => uptoBulkAll parts + 1
  | .iface _ d => uptoBulk d + 1
  | .map entries => uptoBulkEntries entries + 1
  | .held _ => 1
def uptoBulkAll {H : Type} : List (DataW H) → Nat
  | [] => 0
  | d :: r => uptoBulk d + uptoBulkAll r
def uptoBulkEntries {H : Type} : List (Lit × DataW H) → Nat
  | [] => 0
  | x :: r => uptoBulkEntry x + uptoBulkEntries r
def uptoBulkEntry {H : Type} : Lit × DataW H → Nat
  | (.string bytes, d) => bytes.length + uptoBulk d + 1
  | (_, d) => uptoBulk d + 1
 end
def uptoSmall : (H : Type) → List (DataW H) → Bool := fun _ ds => decide (uptoBulkAll ds ≤ 1048576)
def OpenSpec.upto (s : _root_.Go.ChangeSpec) : _root_.Go.OpenSpec := { _root_.Go.OpenSpec.ofChange s with cond := some uptoSmall }

/-- 'trclaw13.AccessGroups', WHERE WHAT IT READS IS OF BULK AT MOST 1048576: true; the input reads as it did. -/
def accessGroupsUptoRow : OpenClaim := { program := "ytcmnepgnkcoiiaagreatdoor", sum := "7b4ffafe6ae550d7e8c189e636fdd17f66d1a8e33a0cb83f416c52a83c98b037", func := "transclude/trclaw13.AccessGroups", spec := "accessGroups", inPlace := ["internal/bytealg.IndexByteString", "internal/bytealg.CountString", "internal/bytealg.IndexString", "internal/abi.NoEscape", "internal/bytealg.MakeNoZero"], unfollowed := true, recurses := true, named := ["unicode/utf8.first", "unicode/utf8.acceptRanges", "internal/bytealg.MaxLen"], apart := false, laid := [("unicode/utf8.acceptRanges", laid_unicode_utf8_acceptRanges), ("unicode/utf8.first", laid_unicode_utf8_first)], narrowed := true }
def AccessGroupsUptoSaid : Prop := accessGroupsUptoRow.holds Tryz.pinned (OpenSpec.upto accessGroupsSpec)

/-- 'trclaw13.AccessClosed', WHERE WHAT IT READS IS OF BULK AT MOST 1048576: true; the input reads as it did. -/
def accessClosedUptoRow : OpenClaim := { program := "ytcmnepgnkcoiiaagreatdoor", sum := "7b4ffafe6ae550d7e8c189e636fdd17f66d1a8e33a0cb83f416c52a83c98b037", func := "transclude/trclaw13.AccessClosed", spec := "accessClosed", inPlace := ["internal/bytealg.IndexByteString", "internal/bytealg.CountString", "internal/bytealg.IndexString", "internal/abi.NoEscape", "internal/bytealg.MakeNoZero"], unfollowed := true, recurses := true, named := ["unicode/utf8.first", "unicode/utf8.acceptRanges", "internal/bytealg.MaxLen"], apart := false, laid := [("unicode/utf8.acceptRanges", laid_unicode_utf8_acceptRanges), ("unicode/utf8.first", laid_unicode_utf8_first)], narrowed := true }
def AccessClosedUptoSaid : Prop := accessClosedUptoRow.holds Tryz.pinned (OpenSpec.upto accessClosedSpec)

/-- 'trclaw13.AccessMay', WHERE WHAT IT READS IS OF BULK AT MOST 1048576: true; the input reads as it did. -/
def accessMayUptoRow : OpenClaim := { program := "ytcmnepgnkcoiiaagreatdoor", sum := "7b4ffafe6ae550d7e8c189e636fdd17f66d1a8e33a0cb83f416c52a83c98b037", func := "transclude/trclaw13.AccessMay", spec := "accessMay", inPlace := ["internal/bytealg.IndexByteString", "internal/bytealg.CountString", "internal/bytealg.IndexString", "internal/abi.NoEscape", "internal/bytealg.MakeNoZero"], unfollowed := true, recurses := true, named := ["unicode/utf8.first", "unicode/utf8.acceptRanges", "internal/bytealg.MaxLen"], apart := false, laid := [("unicode/utf8.acceptRanges", laid_unicode_utf8_acceptRanges), ("unicode/utf8.first", laid_unicode_utf8_first)], narrowed := true }
def AccessMayUptoSaid : Prop := accessMayUptoRow.holds Tryz.pinned (OpenSpec.upto accessMaySpec)

/-- 'trclaw13.AccessDecides', WHERE WHAT IT READS IS OF BULK AT MOST 1048576: true; the input reads as it did. -/
def accessDecidesUptoRow : OpenClaim := { program := "ytcmnepgnkcoiiaagreatdoor", sum := "7b4ffafe6ae550d7e8c189e636fdd17f66d1a8e33a0cb83f416c52a83c98b037", func := "transclude/trclaw13.AccessDecides", spec := "accessDecides", inPlace := ["internal/bytealg.IndexByteString", "internal/bytealg.CountString", "internal/bytealg.IndexString", "internal/abi.NoEscape", "internal/bytealg.MakeNoZero"], unfollowed := true, recurses := true, named := ["unicode/utf8.first", "unicode/utf8.acceptRanges", "internal/bytealg.MaxLen"], apart := false, laid := [("unicode/utf8.acceptRanges", laid_unicode_utf8_acceptRanges), ("unicode/utf8.first", laid_unicode_utf8_first)], narrowed := true }
def AccessDecidesUptoSaid : Prop := accessDecidesUptoRow.holds Tryz.pinned (OpenSpec.upto accessDecidesSpec)

/-- 'trclaw13.AccessNearest', WHERE WHAT IT READS IS OF BULK AT MOST 1048576: true; the input reads as it did. -/
def accessNearestUptoRow : OpenClaim := { program := "ytcmnepgnkcoiiaagreatdoor", sum := "7b4ffafe6ae550d7e8c189e636fdd17f66d1a8e33a0cb83f416c52a83c98b037", func := "transclude/trclaw13.AccessNearest", spec := "accessNearest", inPlace := ["internal/bytealg.IndexByteString", "internal/bytealg.CountString", "internal/bytealg.IndexString", "internal/abi.NoEscape", "internal/bytealg.MakeNoZero"], unfollowed := true, recurses := true, named := ["unicode/utf8.first", "unicode/utf8.acceptRanges", "internal/bytealg.MaxLen"], apart := false, laid := [("unicode/utf8.acceptRanges", laid_unicode_utf8_acceptRanges), ("unicode/utf8.first", laid_unicode_utf8_first)], narrowed := true }
def AccessNearestUptoSaid : Prop := accessNearestUptoRow.holds Tryz.pinned (OpenSpec.upto accessNearestSpec)

/-- 'trclaw13.AccessInherits', WHERE WHAT IT READS IS OF BULK AT MOST 1048576: true; the input reads as it did. -/
def accessInheritsUptoRow : OpenClaim := { program := "ytcmnepgnkcoiiaagreatdoor", sum := "7b4ffafe6ae550d7e8c189e636fdd17f66d1a8e33a0cb83f416c52a83c98b037", func := "transclude/trclaw13.AccessInherits", spec := "accessInherits", inPlace := ["internal/bytealg.IndexByteString", "internal/bytealg.CountString", "internal/bytealg.IndexString", "internal/abi.NoEscape", "internal/bytealg.MakeNoZero"], unfollowed := true, recurses := true, named := ["unicode/utf8.first", "unicode/utf8.acceptRanges", "internal/bytealg.MaxLen"], apart := false, laid := [("unicode/utf8.acceptRanges", laid_unicode_utf8_acceptRanges), ("unicode/utf8.first", laid_unicode_utf8_first)], narrowed := true }
def AccessInheritsUptoSaid : Prop := accessInheritsUptoRow.holds Tryz.pinned (OpenSpec.upto accessInheritsSpec)

/-- 'trclaw13.AccessChange', WHERE WHAT IT READS IS OF BULK AT MOST 1048576: true; the input reads as it did. -/
def accessChangeUptoRow : OpenClaim := { program := "ytcmnepgnkcoiiaagreatdoor", sum := "7b4ffafe6ae550d7e8c189e636fdd17f66d1a8e33a0cb83f416c52a83c98b037", func := "transclude/trclaw13.AccessChange", spec := "accessChange", inPlace := ["internal/bytealg.IndexByteString", "internal/bytealg.CountString", "internal/bytealg.IndexString", "internal/abi.NoEscape", "internal/bytealg.MakeNoZero"], unfollowed := true, recurses := true, named := ["unicode/utf8.first", "unicode/utf8.acceptRanges", "internal/bytealg.MaxLen"], apart := false, laid := [("unicode/utf8.acceptRanges", laid_unicode_utf8_acceptRanges), ("unicode/utf8.first", laid_unicode_utf8_first)], narrowed := true }
def AccessChangeUptoSaid : Prop := accessChangeUptoRow.holds Tryz.pinned (OpenSpec.upto accessChangeSpec)

/-- 'trclaw13.AccessGuards', WHERE WHAT IT READS IS OF BULK AT MOST 1048576: true; the input reads as it did. -/
def accessGuardsUptoRow : OpenClaim := { program := "ytcmnepgnkcoiiaagreatdoor", sum := "7b4ffafe6ae550d7e8c189e636fdd17f66d1a8e33a0cb83f416c52a83c98b037", func := "transclude/trclaw13.AccessGuards", spec := "accessGuards", inPlace := ["internal/bytealg.IndexByteString", "internal/bytealg.IndexString", "internal/abi.NoEscape", "internal/bytealg.MakeNoZero", "internal/bytealg.CountString"], unfollowed := true, recurses := true, named := ["internal/bytealg.MaxLen", "unicode/utf8.first", "unicode/utf8.acceptRanges"], apart := false, laid := [("unicode/utf8.acceptRanges", laid_unicode_utf8_acceptRanges), ("unicode/utf8.first", laid_unicode_utf8_first)], narrowed := true }
def AccessGuardsUptoSaid : Prop := accessGuardsUptoRow.holds Tryz.pinned (OpenSpec.upto accessGuardsSpec)

/-- 'trclaw13.AccessSections', WHERE WHAT IT READS IS OF BULK AT MOST 1048576: true; the input reads as it did. -/
def accessSectionsUptoRow : OpenClaim := { program := "ytcmnepgnkcoiiaagreatdoor", sum := "7b4ffafe6ae550d7e8c189e636fdd17f66d1a8e33a0cb83f416c52a83c98b037", func := "transclude/trclaw13.AccessSections", spec := "accessSections", inPlace := ["internal/bytealg.IndexByteString", "internal/bytealg.CountString", "internal/bytealg.IndexString", "internal/abi.NoEscape", "internal/bytealg.MakeNoZero"], unfollowed := true, recurses := true, named := ["unicode/utf8.first", "unicode/utf8.acceptRanges", "internal/bytealg.MaxLen"], apart := false, laid := [("unicode/utf8.acceptRanges", laid_unicode_utf8_acceptRanges), ("unicode/utf8.first", laid_unicode_utf8_first)], narrowed := true }
def AccessSectionsUptoSaid : Prop := accessSectionsUptoRow.holds Tryz.pinned (OpenSpec.upto accessSectionsSpec)

/-- 'trclaw13.AccessLevels', WHERE WHAT IT READS IS OF BULK AT MOST 1048576: true; the input reads as it did. -/
def accessLevelsUptoRow : OpenClaim := { program := "ytcmnepgnkcoiiaagreatdoor", sum := "7b4ffafe6ae550d7e8c189e636fdd17f66d1a8e33a0cb83f416c52a83c98b037", func := "transclude/trclaw13.AccessLevels", spec := "accessLevels", inPlace := ["internal/bytealg.IndexByteString", "internal/bytealg.CountString", "internal/bytealg.IndexString", "internal/abi.NoEscape", "internal/bytealg.MakeNoZero"], unfollowed := true, recurses := true, named := ["unicode/utf8.first", "unicode/utf8.acceptRanges", "internal/bytealg.MaxLen"], apart := false, laid := [("unicode/utf8.acceptRanges", laid_unicode_utf8_acceptRanges), ("unicode/utf8.first", laid_unicode_utf8_first)], narrowed := true }
def AccessLevelsUptoSaid : Prop := accessLevelsUptoRow.holds Tryz.pinned (OpenSpec.upto accessLevelsSpec)

end Rows
end Go.Proofs.YtcmnepgnkcoiiaaGreatDoor
