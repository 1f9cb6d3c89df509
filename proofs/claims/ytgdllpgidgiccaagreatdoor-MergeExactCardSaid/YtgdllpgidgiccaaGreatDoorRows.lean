/-
  NARROWER THAN 'FOR EVERY INPUT', by the rows' own cells (each row's printed sentence says how): MergeUnits: laid · MergeSections: laid · MergeExact: laid · MergeTrivial: laid · MergeSides: laid · MergeConflicts: laid.
  DERIVED. THE GIVEN ROWS OF THIS SEAT. 6 by the template 'for every input the law returns true; each argument reads behind the call as it read before'; 0 by the template 'total and deterministic' (their statements: YtgdllpgidgiccaaGreatDoorTotals.lean).
  GIVEN WITH THE SEED: the statements are not yours to turn. If you find one false, say at which input.
  Laid BY PROGRAM, IN A SANDBOX (cutbox-rows.mjs): the forced cells as the released guide's own fill.sh prints them over the translation 375581c514e783bf… (all of the seat's roots in one cut). By AI agents, Wed Nov 11 2026. No macro, syntax, notation, axiom, sorry.
-/
import Derived.Test.YtgdllpgidgiccaaGreatDoorChecked
import GoSem.PinnedTables
import GoSem.Claim
import GoSem.ClaimJoined
import GoSem.ClaimMapViews
import Derived.JoinedTies
import Derived.KernelRfl
namespace Go.Proofs.YtgdllpgidgiccaaGreatDoor
/- THE CELL 'sum', in the pinned program and in every row, IS THE sha256 OF THE DUMP (.gsa) THAT YtgdllpgidgiccaaGreatDoorProg.lean LOADS. Nothing in Lean hashes anything: it is a label: what it is worth is what the hold of that sum in a sandbox is worth. -/
noncomputable def Tryz.pinned : Pinned := { name := "ytgdllpgidgiccaagreatdoor", sum := "375581c514e783bf735081016192925ea49a70035dc923b116ef8894d1a93f1c", checked := Tryz.checked }
namespace Rows
def none {H : Type} : Left H := { results := [], args := [] }

/- WHAT THE LISTED PACKAGE-LEVEL VARIABLES READ AS WHEN THE CALL BEGINS. Each datum BY PROGRAM (the guide's laid-datum.mjs) off the statement by which the dump's own 'gosem.cut.vars' lays the variable. In a bare row this is a premise. The card (YtgdllpgidgiccaaGreatDoorCards.lean) ties it to the program's text. -/
def laid_unicode_utf8_acceptRanges {H : Type} : DataW H := .agg [.agg [.lit (.int .u8 128), .lit (.int .u8 191)], .agg [.lit (.int .u8 160), .lit (.int .u8 191)], .agg [.lit (.int .u8 128), .lit (.int .u8 159)], .agg [.lit (.int .u8 144), .lit (.int .u8 191)], .agg [.lit (.int .u8 128), .lit (.int .u8 143)], .agg [.lit (.int .u8 0), .lit (.int .u8 0)], .agg [.lit (.int .u8 0), .lit (.int .u8 0)], .agg [.lit (.int .u8 0), .lit (.int .u8 0)], .agg [.lit (.int .u8 0), .lit (.int .u8 0)], .agg [.lit (.int .u8 0), .lit (.int .u8 0)], .agg [.lit (.int .u8 0), .lit (.int .u8 0)], .agg [.lit (.int .u8 0), .lit (.int .u8 0)], .agg [.lit (.int .u8 0), .lit (.int .u8 0)], .agg [.lit (.int .u8 0), .lit (.int .u8 0)], .agg [.lit (.int .u8 0), .lit (.int .u8 0)], .agg [.lit (.int .u8 0), .lit (.int .u8 0)]]
/-- One of Go's own tables, pinned by name: the form's constant. -/
def laid_unicode_utf8_first : DataW Unit := Go.Pinned.utf8First

/-- 'trclaw23.MergeUnits': WHATEVER THE INPUT: true; the input reads as it did. -/
def mergeUnitsSpec : ChangeSpec := { name := "mergeUnits", fn := fun _ => fun
  | [d1, d2] => { results := [.lit (.bool true)], args := [d1, d2] }
  | _ => none }
def mergeUnitsRow : OpenClaim := { program := "ytgdllpgidgiccaagreatdoor", sum := "375581c514e783bf735081016192925ea49a70035dc923b116ef8894d1a93f1c", func := "transclude/trclaw23.MergeUnits", spec := "mergeUnits", inPlace := ["internal/bytealg.IndexByteString", "internal/bytealg.IndexString", "internal/abi.NoEscape", "internal/bytealg.MakeNoZero", "slices.overlaps[transclude/api.Unit]"], unfollowed := true, recurses := true, named := ["internal/bytealg.MaxLen", "unicode/utf8.first", "unicode/utf8.acceptRanges"], plainKeys := false, apart := false, laid := [("unicode/utf8.acceptRanges", laid_unicode_utf8_acceptRanges), ("unicode/utf8.first", laid_unicode_utf8_first)] }
def MergeUnitsSaid : Prop := mergeUnitsRow.holds Tryz.pinned (OpenSpec.ofChange mergeUnitsSpec)

/-- ITS FALSE NEIGHBOUR: 'it returns false'. Refute it at one input. -/
def mergeUnitsWrong : ChangeSpec := { name := "mergeUnits", fn := fun _ => fun
  | [d1, d2] => { results := [.lit (.bool false)], args := [d1, d2] }
  | _ => none }
def MergeUnitsWrongFalsely : Prop := mergeUnitsRow.holds Tryz.pinned (OpenSpec.ofChange mergeUnitsWrong)

/-- 'trclaw23.MergeSections': WHATEVER THE INPUT: true; the input reads as it did. -/
def mergeSectionsSpec : ChangeSpec := { name := "mergeSections", fn := fun _ => fun
  | [d1, d2, d3] => { results := [.lit (.bool true)], args := [d1, d2, d3] }
  | _ => none }
def mergeSectionsRow : OpenClaim := { program := "ytgdllpgidgiccaagreatdoor", sum := "375581c514e783bf735081016192925ea49a70035dc923b116ef8894d1a93f1c", func := "transclude/trclaw23.MergeSections", spec := "mergeSections", inPlace := ["internal/bytealg.IndexByteString", "internal/bytealg.IndexString", "internal/abi.NoEscape", "internal/bytealg.MakeNoZero", "slices.overlaps[transclude/api.Unit]"], unfollowed := true, recurses := true, named := ["internal/bytealg.MaxLen", "unicode/utf8.first", "unicode/utf8.acceptRanges"], plainKeys := false, apart := false, laid := [("unicode/utf8.acceptRanges", laid_unicode_utf8_acceptRanges), ("unicode/utf8.first", laid_unicode_utf8_first)] }
def MergeSectionsSaid : Prop := mergeSectionsRow.holds Tryz.pinned (OpenSpec.ofChange mergeSectionsSpec)

/-- ITS FALSE NEIGHBOUR: 'it returns false'. Refute it at one input. -/
def mergeSectionsWrong : ChangeSpec := { name := "mergeSections", fn := fun _ => fun
  | [d1, d2, d3] => { results := [.lit (.bool false)], args := [d1, d2, d3] }
  | _ => none }
def MergeSectionsWrongFalsely : Prop := mergeSectionsRow.holds Tryz.pinned (OpenSpec.ofChange mergeSectionsWrong)

/-- 'trclaw23.MergeExact': WHATEVER THE INPUT: true; the input reads as it did. -/
def mergeExactSpec : ChangeSpec := { name := "mergeExact", fn := fun _ => fun
  | [d1, d2, d3, d4] => { results := [.lit (.bool true)], args := [d1, d2, d3, d4] }
  | _ => none }
def mergeExactRow : OpenClaim := { program := "ytgdllpgidgiccaagreatdoor", sum := "375581c514e783bf735081016192925ea49a70035dc923b116ef8894d1a93f1c", func := "transclude/trclaw23.MergeExact", spec := "mergeExact", inPlace := ["internal/bytealg.IndexByteString", "internal/bytealg.IndexString", "internal/abi.NoEscape", "internal/bytealg.MakeNoZero", "slices.overlaps[transclude/api.Unit]", "internal/bytealg.CountString"], unfollowed := true, recurses := true, named := ["internal/bytealg.MaxLen", "unicode/utf8.first", "unicode/utf8.acceptRanges"], plainKeys := false, apart := false, laid := [("unicode/utf8.acceptRanges", laid_unicode_utf8_acceptRanges), ("unicode/utf8.first", laid_unicode_utf8_first)] }
def MergeExactSaid : Prop := mergeExactRow.holds Tryz.pinned (OpenSpec.ofChange mergeExactSpec)

/-- ITS FALSE NEIGHBOUR: 'it returns false'. Refute it at one input. -/
def mergeExactWrong : ChangeSpec := { name := "mergeExact", fn := fun _ => fun
  | [d1, d2, d3, d4] => { results := [.lit (.bool false)], args := [d1, d2, d3, d4] }
  | _ => none }
def MergeExactWrongFalsely : Prop := mergeExactRow.holds Tryz.pinned (OpenSpec.ofChange mergeExactWrong)

/-- 'trclaw23.MergeTrivial': WHATEVER THE INPUT: true; the input reads as it did. -/
def mergeTrivialSpec : ChangeSpec := { name := "mergeTrivial", fn := fun _ => fun
  | [d] => { results := [.lit (.bool true)], args := [d] }
  | _ => none }
def mergeTrivialRow : OpenClaim := { program := "ytgdllpgidgiccaagreatdoor", sum := "375581c514e783bf735081016192925ea49a70035dc923b116ef8894d1a93f1c", func := "transclude/trclaw23.MergeTrivial", spec := "mergeTrivial", inPlace := ["internal/bytealg.CountString", "internal/bytealg.IndexByteString", "internal/bytealg.IndexString", "internal/abi.NoEscape", "internal/bytealg.MakeNoZero", "slices.overlaps[transclude/api.Unit]"], unfollowed := true, recurses := true, named := ["unicode/utf8.first", "unicode/utf8.acceptRanges", "internal/bytealg.MaxLen"], plainKeys := false, apart := false, laid := [("unicode/utf8.acceptRanges", laid_unicode_utf8_acceptRanges), ("unicode/utf8.first", laid_unicode_utf8_first)] }
def MergeTrivialSaid : Prop := mergeTrivialRow.holds Tryz.pinned (OpenSpec.ofChange mergeTrivialSpec)

/-- ITS FALSE NEIGHBOUR: 'it returns false'. Refute it at one input. -/
def mergeTrivialWrong : ChangeSpec := { name := "mergeTrivial", fn := fun _ => fun
  | [d] => { results := [.lit (.bool false)], args := [d] }
  | _ => none }
def MergeTrivialWrongFalsely : Prop := mergeTrivialRow.holds Tryz.pinned (OpenSpec.ofChange mergeTrivialWrong)

/-- 'trclaw23.MergeSides': WHATEVER THE INPUT: true; the input reads as it did. -/
def mergeSidesSpec : ChangeSpec := { name := "mergeSides", fn := fun _ => fun
  | [d] => { results := [.lit (.bool true)], args := [d] }
  | _ => none }
def mergeSidesRow : OpenClaim := { program := "ytgdllpgidgiccaagreatdoor", sum := "375581c514e783bf735081016192925ea49a70035dc923b116ef8894d1a93f1c", func := "transclude/trclaw23.MergeSides", spec := "mergeSides", inPlace := ["internal/bytealg.CountString", "internal/bytealg.IndexByteString", "internal/bytealg.IndexString", "internal/abi.NoEscape", "internal/bytealg.MakeNoZero", "slices.overlaps[transclude/api.Unit]"], unfollowed := true, recurses := true, named := ["unicode/utf8.first", "unicode/utf8.acceptRanges", "internal/bytealg.MaxLen"], plainKeys := false, apart := false, laid := [("unicode/utf8.acceptRanges", laid_unicode_utf8_acceptRanges), ("unicode/utf8.first", laid_unicode_utf8_first)] }
def MergeSidesSaid : Prop := mergeSidesRow.holds Tryz.pinned (OpenSpec.ofChange mergeSidesSpec)

/-- ITS FALSE NEIGHBOUR: 'it returns false'. Refute it at one input. -/
def mergeSidesWrong : ChangeSpec := { name := "mergeSides", fn := fun _ => fun
  | [d] => { results := [.lit (.bool false)], args := [d] }
  | _ => none }
def MergeSidesWrongFalsely : Prop := mergeSidesRow.holds Tryz.pinned (OpenSpec.ofChange mergeSidesWrong)

/-- 'trclaw23.MergeConflicts': WHATEVER THE INPUT: true; the input reads as it did. -/
def mergeConflictsSpec : ChangeSpec := { name := "mergeConflicts", fn := fun _ => fun
  | [d] => { results := [.lit (.bool true)], args := [d] }
  | _ => none }
def mergeConflictsRow : OpenClaim := { program := "ytgdllpgidgiccaagreatdoor", sum := "375581c514e783bf735081016192925ea49a70035dc923b116ef8894d1a93f1c", func := "transclude/trclaw23.MergeConflicts", spec := "mergeConflicts", inPlace := ["internal/bytealg.CountString", "internal/bytealg.IndexByteString", "internal/bytealg.IndexString", "internal/abi.NoEscape", "internal/bytealg.MakeNoZero", "slices.overlaps[transclude/api.Unit]"], unfollowed := true, recurses := true, named := ["unicode/utf8.first", "unicode/utf8.acceptRanges", "internal/bytealg.MaxLen"], plainKeys := false, apart := false, laid := [("unicode/utf8.acceptRanges", laid_unicode_utf8_acceptRanges), ("unicode/utf8.first", laid_unicode_utf8_first)] }
def MergeConflictsSaid : Prop := mergeConflictsRow.holds Tryz.pinned (OpenSpec.ofChange mergeConflictsSpec)

/-- ITS FALSE NEIGHBOUR: 'it returns false'. Refute it at one input. -/
def mergeConflictsWrong : ChangeSpec := { name := "mergeConflicts", fn := fun _ => fun
  | [d] => { results := [.lit (.bool false)], args := [d] }
  | _ => none }
def MergeConflictsWrongFalsely : Prop := mergeConflictsRow.holds Tryz.pinned (OpenSpec.ofChange mergeConflictsWrong)

/- THE SECOND FORM. 'bulk': how many values and letters a reading holds, each counted each time it is reached (what is shared counts as often as it is met; a slice's spare places count too). A statement '..UptoSaid' is the law's where the arguments, and the package variables that the reading takes, are together of bulk at most 1048576: NARROWER than '..Said'. Prove '..Said' where nothing that the law and all that it calls make is longer than what came in: it says more and counts as full. Else prove '..UptoSaid'. A law counts once. -/
mutual
def uptoBulk {H : Type} : DataW H → Nat
  | .lit (.string bytes) => bytes.length + 1
  | .lit _ => 1
  | .nil => 1
  | .ptr d => uptoBulk d + 1
  | .slice elems spare => uptoBulkAll elems + uptoBulkAll spare + 1
  | .agg parts => uptoBulkAll parts + 1
  | .iface _ d => uptoBulk d + 1
  | .map entries => uptoBulkEntries entries + 1
  | .held _ => 1
def uptoBulkAll {H : Type} : List (DataW H) → Nat
  | [] => 0
  | d :: r => uptoBulk d + uptoBulkAll r
def uptoBulkEntries {H : Type} : List (Lit × DataW H) → Nat
  | [] => 0
  | x :: r => uptoBulkEntry x + uptoBulkEntries r
def uptoBulkEntry {H : Type} : Lit × DataW H → Nat
  | (.string bytes, d) => bytes.length + uptoBulk d + 1
  | (_, d) => uptoBulk d + 1
 end
def uptoSmall : (H : Type) → List (DataW H) → Bool := fun _ ds => decide (uptoBulkAll ds ≤ 1048576)
def OpenSpec.upto (s : _root_.Go.ChangeSpec) : _root_.Go.OpenSpec := { _root_.Go.OpenSpec.ofChange s with cond := some uptoSmall }

/-- 'trclaw23.MergeUnits', WHERE WHAT IT READS IS OF BULK AT MOST 1048576: true; the input reads as it did. -/
def mergeUnitsUptoRow : OpenClaim := { program := "ytgdllpgidgiccaagreatdoor", sum := "375581c514e783bf735081016192925ea49a70035dc923b116ef8894d1a93f1c", func := "transclude/trclaw23.MergeUnits", spec := "mergeUnits", inPlace := ["internal/bytealg.IndexByteString", "internal/bytealg.IndexString", "internal/abi.NoEscape", "internal/bytealg.MakeNoZero", "slices.overlaps[transclude/api.Unit]"], unfollowed := true, recurses := true, named := ["internal/bytealg.MaxLen", "unicode/utf8.first", "unicode/utf8.acceptRanges"], plainKeys := false, apart := false, laid := [("unicode/utf8.acceptRanges", laid_unicode_utf8_acceptRanges), ("unicode/utf8.first", laid_unicode_utf8_first)], narrowed := true }
def MergeUnitsUptoSaid : Prop := mergeUnitsUptoRow.holds Tryz.pinned (OpenSpec.upto mergeUnitsSpec)

/-- 'trclaw23.MergeSections', WHERE WHAT IT READS IS OF BULK AT MOST 1048576: true; the input reads as it did. -/
def mergeSectionsUptoRow : OpenClaim := { program := "ytgdllpgidgiccaagreatdoor", sum := "375581c514e783bf735081016192925ea49a70035dc923b116ef8894d1a93f1c", func := "transclude/trclaw23.MergeSections", spec := "mergeSections", inPlace := ["internal/bytealg.IndexByteString", "internal/bytealg.IndexString", "internal/abi.NoEscape", "internal/bytealg.MakeNoZero", "slices.overlaps[transclude/api.Unit]"], unfollowed := true, recurses := true, named := ["internal/bytealg.MaxLen", "unicode/utf8.first", "unicode/utf8.acceptRanges"], plainKeys := false, apart := false, laid := [("unicode/utf8.acceptRanges", laid_unicode_utf8_acceptRanges), ("unicode/utf8.first", laid_unicode_utf8_first)], narrowed := true }
def MergeSectionsUptoSaid : Prop := mergeSectionsUptoRow.holds Tryz.pinned (OpenSpec.upto mergeSectionsSpec)

/-- 'trclaw23.MergeExact', WHERE WHAT IT READS IS OF BULK AT MOST 1048576: true; the input reads as it did. -/
def mergeExactUptoRow : OpenClaim := { program := "ytgdllpgidgiccaagreatdoor", sum := "375581c514e783bf735081016192925ea49a70035dc923b116ef8894d1a93f1c", func := "transclude/trclaw23.MergeExact", spec := "mergeExact", inPlace := ["internal/bytealg.IndexByteString", "internal/bytealg.IndexString", "internal/abi.NoEscape", "internal/bytealg.MakeNoZero", "slices.overlaps[transclude/api.Unit]", "internal/bytealg.CountString"], unfollowed := true, recurses := true, named := ["internal/bytealg.MaxLen", "unicode/utf8.first", "unicode/utf8.acceptRanges"], plainKeys := false, apart := false, laid := [("unicode/utf8.acceptRanges", laid_unicode_utf8_acceptRanges), ("unicode/utf8.first", laid_unicode_utf8_first)], narrowed := true }
def MergeExactUptoSaid : Prop := mergeExactUptoRow.holds Tryz.pinned (OpenSpec.upto mergeExactSpec)

/-- 'trclaw23.MergeTrivial', WHERE WHAT IT READS IS OF BULK AT MOST 1048576: true; the input reads as it did. -/
def mergeTrivialUptoRow : OpenClaim := { program := "ytgdllpgidgiccaagreatdoor", sum := "375581c514e783bf735081016192925ea49a70035dc923b116ef8894d1a93f1c", func := "transclude/trclaw23.MergeTrivial", spec := "mergeTrivial", inPlace := ["internal/bytealg.CountString", "internal/bytealg.IndexByteString", "internal/bytealg.IndexString", "internal/abi.NoEscape", "internal/bytealg.MakeNoZero", "slices.overlaps[transclude/api.Unit]"], unfollowed := true, recurses := true, named := ["unicode/utf8.first", "unicode/utf8.acceptRanges", "internal/bytealg.MaxLen"], plainKeys := false, apart := false, laid := [("unicode/utf8.acceptRanges", laid_unicode_utf8_acceptRanges), ("unicode/utf8.first", laid_unicode_utf8_first)], narrowed := true }
def MergeTrivialUptoSaid : Prop := mergeTrivialUptoRow.holds Tryz.pinned (OpenSpec.upto mergeTrivialSpec)

/-- 'trclaw23.MergeSides', WHERE WHAT IT READS IS OF BULK AT MOST 1048576: true; the input reads as it did. -/
def mergeSidesUptoRow : OpenClaim := { program := "ytgdllpgidgiccaagreatdoor", sum := "375581c514e783bf735081016192925ea49a70035dc923b116ef8894d1a93f1c", func := "transclude/trclaw23.MergeSides", spec := "mergeSides", inPlace := ["internal/bytealg.CountString", "internal/bytealg.IndexByteString", "internal/bytealg.IndexString", "internal/abi.NoEscape", "internal/bytealg.MakeNoZero", "slices.overlaps[transclude/api.Unit]"], unfollowed := true, recurses := true, named := ["unicode/utf8.first", "unicode/utf8.acceptRanges", "internal/bytealg.MaxLen"], plainKeys := false, apart := false, laid := [("unicode/utf8.acceptRanges", laid_unicode_utf8_acceptRanges), ("unicode/utf8.first", laid_unicode_utf8_first)], narrowed := true }
def MergeSidesUptoSaid : Prop := mergeSidesUptoRow.holds Tryz.pinned (OpenSpec.upto mergeSidesSpec)

/-- 'trclaw23.MergeConflicts', WHERE WHAT IT READS IS OF BULK AT MOST 1048576: true; the input reads as it did. -/
def mergeConflictsUptoRow : OpenClaim := { program := "ytgdllpgidgiccaagreatdoor", sum := "375581c514e783bf735081016192925ea49a70035dc923b116ef8894d1a93f1c", func := "transclude/trclaw23.MergeConflicts", spec := "mergeConflicts", inPlace := ["internal/bytealg.CountString", "internal/bytealg.IndexByteString", "internal/bytealg.IndexString", "internal/abi.NoEscape", "internal/bytealg.MakeNoZero", "slices.overlaps[transclude/api.Unit]"], unfollowed := true, recurses := true, named := ["unicode/utf8.first", "unicode/utf8.acceptRanges", "internal/bytealg.MaxLen"], plainKeys := false, apart := false, laid := [("unicode/utf8.acceptRanges", laid_unicode_utf8_acceptRanges), ("unicode/utf8.first", laid_unicode_utf8_first)], narrowed := true }
def MergeConflictsUptoSaid : Prop := mergeConflictsUptoRow.holds Tryz.pinned (OpenSpec.upto mergeConflictsSpec)

end Rows
end Go.Proofs.YtgdllpgidgiccaaGreatDoor
