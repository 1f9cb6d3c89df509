/-
  NARROWER THAN 'FOR EVERY INPUT', by the rows' own cells (each row's printed sentence says how): HistoryRevisions: laid · HistoryDenied: laid · EditPolicies: laid · EditDenied: laid.
  DERIVED. THE GIVEN ROWS OF THIS SEAT. 4 by the template 'for every input the law returns true; each argument reads behind the call as it read before'; 0 by the template 'total and deterministic' (their statements: YtikmbicdjpkipaaGreatDoorTotals.lean).
  GIVEN WITH THE SEED: the statements are not yours to turn. If you find one false, say at which input.
  Laid BY PROGRAM, IN A SANDBOX (cutbox-rows.mjs): the forced cells as the released guide's own fill.sh prints them over the translation 9e1fcc3f3282f068… (all of the seat's roots in one cut). By AI agents, Wed Nov 11 2026. No macro, syntax, notation, axiom, sorry.
-/
import Derived.Test.YtikmbicdjpkipaaGreatDoorChecked
import GoSem.PinnedTables
import GoSem.Claim
import GoSem.ClaimJoined
import GoSem.ClaimMapViews
import Derived.JoinedTies
import Derived.KernelRfl
namespace Go.Proofs.YtikmbicdjpkipaaGreatDoor
/- THE CELL 'sum', in the pinned program and in every row, IS THE sha256 OF THE DUMP (.gsa) THAT YtikmbicdjpkipaaGreatDoorProg.lean LOADS. Nothing in Lean hashes anything: it is a label: what it is worth is what the hold of that sum in a sandbox is worth. -/
noncomputable def Tryz.pinned : Pinned := { name := "ytikmbicdjpkipaagreatdoor", sum := "9e1fcc3f3282f0681666031df6b2d2ad4163dfadfe14ba60ff1a9a9f52144033", checked := Tryz.checked }
namespace Rows
def none {H : Type} : Left H := { results := [], args := [] }

/- WHAT THE LISTED PACKAGE-LEVEL VARIABLES READ AS WHEN THE CALL BEGINS. Each datum BY PROGRAM (the guide's laid-datum.mjs) off the statement by which the dump's own 'gosem.cut.vars' lays the variable. In a bare row this is a premise. The card (YtikmbicdjpkipaaGreatDoorCards.lean) ties it to the program's text. -/
def laid_unicode_utf8_acceptRanges {H : Type} : DataW H := .agg [.agg [.lit (.int .u8 128), .lit (.int .u8 191)], .agg [.lit (.int .u8 160), .lit (.int .u8 191)], .agg [.lit (.int .u8 128), .lit (.int .u8 159)], .agg [.lit (.int .u8 144), .lit (.int .u8 191)], .agg [.lit (.int .u8 128), .lit (.int .u8 143)], .agg [.lit (.int .u8 0), .lit (.int .u8 0)], .agg [.lit (.int .u8 0), .lit (.int .u8 0)], .agg [.lit (.int .u8 0), .lit (.int .u8 0)], .agg [.lit (.int .u8 0), .lit (.int .u8 0)], .agg [.lit (.int .u8 0), .lit (.int .u8 0)], .agg [.lit (.int .u8 0), .lit (.int .u8 0)], .agg [.lit (.int .u8 0), .lit (.int .u8 0)], .agg [.lit (.int .u8 0), .lit (.int .u8 0)], .agg [.lit (.int .u8 0), .lit (.int .u8 0)], .agg [.lit (.int .u8 0), .lit (.int .u8 0)], .agg [.lit (.int .u8 0), .lit (.int .u8 0)]]
def laid_transclude_edit_rules {H : Type} : DataW H := .agg [.lit (.int .i64 5), .lit (.string [80, 111, 108, 105, 99, 121])]
def laid_transclude_history_rules {H : Type} : DataW H := .agg [.lit (.int .i64 5), .lit (.string [80, 111, 108, 105, 99, 121])]
/-- One of Go's own tables, pinned by name: the form's constant. -/
def laid_unicode_utf8_first : DataW Unit := Go.Pinned.utf8First

/-- 'trclaw30.HistoryRevisions': WHATEVER THE INPUT: true; the input reads as it did. -/
def historyRevisionsSpec : ChangeSpec := { name := "historyRevisions", fn := fun _ => fun
  | [d1, d2, d3, d4, d5, d6] => { results := [.lit (.bool true)], args := [d1, d2, d3, d4, d5, d6] }
  | _ => none }
def historyRevisionsRow : OpenClaim := { program := "ytikmbicdjpkipaagreatdoor", sum := "9e1fcc3f3282f0681666031df6b2d2ad4163dfadfe14ba60ff1a9a9f52144033", func := "transclude/trclaw30.HistoryRevisions", spec := "historyRevisions", inPlace := ["internal/bytealg.IndexByteString", "internal/bytealg.CountString", "internal/bytealg.IndexString", "internal/abi.NoEscape", "internal/bytealg.MakeNoZero"], unfollowed := true, recurses := true, named := ["transclude/history.rules", "unicode/utf8.first", "unicode/utf8.acceptRanges", "internal/bytealg.MaxLen", "transclude/edit.rules"], plainKeys := false, apart := false, laid := [("unicode/utf8.acceptRanges", laid_unicode_utf8_acceptRanges), ("transclude/edit.rules", laid_transclude_edit_rules), ("transclude/history.rules", laid_transclude_history_rules), ("unicode/utf8.first", laid_unicode_utf8_first)] }
def HistoryRevisionsSaid : Prop := historyRevisionsRow.holds Tryz.pinned (OpenSpec.ofChange historyRevisionsSpec)

/-- ITS FALSE NEIGHBOUR: 'it returns false'. Refute it at one input. -/
def historyRevisionsWrong : ChangeSpec := { name := "historyRevisions", fn := fun _ => fun
  | [d1, d2, d3, d4, d5, d6] => { results := [.lit (.bool false)], args := [d1, d2, d3, d4, d5, d6] }
  | _ => none }
def HistoryRevisionsWrongFalsely : Prop := historyRevisionsRow.holds Tryz.pinned (OpenSpec.ofChange historyRevisionsWrong)

/-- 'trclaw30.HistoryDenied': WHATEVER THE INPUT: true; the input reads as it did. -/
def historyDeniedSpec : ChangeSpec := { name := "historyDenied", fn := fun _ => fun
  | [d1, d2, d3] => { results := [.lit (.bool true)], args := [d1, d2, d3] }
  | _ => none }
def historyDeniedRow : OpenClaim := { program := "ytikmbicdjpkipaagreatdoor", sum := "9e1fcc3f3282f0681666031df6b2d2ad4163dfadfe14ba60ff1a9a9f52144033", func := "transclude/trclaw30.HistoryDenied", spec := "historyDenied", inPlace := ["internal/bytealg.IndexByteString", "internal/bytealg.CountString", "internal/bytealg.IndexString", "internal/abi.NoEscape", "internal/bytealg.MakeNoZero"], unfollowed := true, recurses := true, named := ["transclude/history.rules", "unicode/utf8.first", "unicode/utf8.acceptRanges", "internal/bytealg.MaxLen", "transclude/edit.rules"], plainKeys := false, apart := false, laid := [("unicode/utf8.acceptRanges", laid_unicode_utf8_acceptRanges), ("transclude/edit.rules", laid_transclude_edit_rules), ("transclude/history.rules", laid_transclude_history_rules), ("unicode/utf8.first", laid_unicode_utf8_first)] }
def HistoryDeniedSaid : Prop := historyDeniedRow.holds Tryz.pinned (OpenSpec.ofChange historyDeniedSpec)

/-- ITS FALSE NEIGHBOUR: 'it returns false'. Refute it at one input. -/
def historyDeniedWrong : ChangeSpec := { name := "historyDenied", fn := fun _ => fun
  | [d1, d2, d3] => { results := [.lit (.bool false)], args := [d1, d2, d3] }
  | _ => none }
def HistoryDeniedWrongFalsely : Prop := historyDeniedRow.holds Tryz.pinned (OpenSpec.ofChange historyDeniedWrong)

/-- 'trclaw29.EditPolicies': WHATEVER THE INPUT: true; the input reads as it did. -/
def editPoliciesSpec : ChangeSpec := { name := "editPolicies", fn := fun _ => fun
  | [d1, d2, d3] => { results := [.lit (.bool true)], args := [d1, d2, d3] }
  | _ => none }
def editPoliciesRow : OpenClaim := { program := "ytikmbicdjpkipaagreatdoor", sum := "9e1fcc3f3282f0681666031df6b2d2ad4163dfadfe14ba60ff1a9a9f52144033", func := "transclude/trclaw29.EditPolicies", spec := "editPolicies", inPlace := ["internal/bytealg.CountString", "internal/bytealg.IndexByteString", "internal/bytealg.IndexString", "internal/abi.NoEscape", "internal/bytealg.MakeNoZero", "slices.overlaps[transclude/api.Unit]"], unfollowed := true, recurses := true, named := ["transclude/edit.rules", "unicode/utf8.first", "unicode/utf8.acceptRanges", "internal/bytealg.MaxLen"], plainKeys := false, apart := false, laid := [("unicode/utf8.acceptRanges", laid_unicode_utf8_acceptRanges), ("transclude/edit.rules", laid_transclude_edit_rules), ("unicode/utf8.first", laid_unicode_utf8_first)] }
def EditPoliciesSaid : Prop := editPoliciesRow.holds Tryz.pinned (OpenSpec.ofChange editPoliciesSpec)

/-- ITS FALSE NEIGHBOUR: 'it returns false'. Refute it at one input. -/
def editPoliciesWrong : ChangeSpec := { name := "editPolicies", fn := fun _ => fun
  | [d1, d2, d3] => { results := [.lit (.bool false)], args := [d1, d2, d3] }
  | _ => none }
def EditPoliciesWrongFalsely : Prop := editPoliciesRow.holds Tryz.pinned (OpenSpec.ofChange editPoliciesWrong)

/-- 'trclaw29.EditDenied': WHATEVER THE INPUT: true; the input reads as it did. -/
def editDeniedSpec : ChangeSpec := { name := "editDenied", fn := fun _ => fun
  | [d1, d2, d3, d4] => { results := [.lit (.bool true)], args := [d1, d2, d3, d4] }
  | _ => none }
def editDeniedRow : OpenClaim := { program := "ytikmbicdjpkipaagreatdoor", sum := "9e1fcc3f3282f0681666031df6b2d2ad4163dfadfe14ba60ff1a9a9f52144033", func := "transclude/trclaw29.EditDenied", spec := "editDenied", inPlace := ["internal/bytealg.CountString", "internal/bytealg.IndexByteString", "internal/bytealg.IndexString", "internal/abi.NoEscape", "internal/bytealg.MakeNoZero", "slices.overlaps[transclude/api.Unit]"], unfollowed := true, recurses := true, named := ["transclude/edit.rules", "unicode/utf8.first", "unicode/utf8.acceptRanges", "internal/bytealg.MaxLen"], plainKeys := false, apart := false, laid := [("unicode/utf8.acceptRanges", laid_unicode_utf8_acceptRanges), ("transclude/edit.rules", laid_transclude_edit_rules), ("unicode/utf8.first", laid_unicode_utf8_first)] }
def EditDeniedSaid : Prop := editDeniedRow.holds Tryz.pinned (OpenSpec.ofChange editDeniedSpec)

/-- ITS FALSE NEIGHBOUR: 'it returns false'. Refute it at one input. -/
def editDeniedWrong : ChangeSpec := { name := "editDenied", fn := fun _ => fun
  | [d1, d2, d3, d4] => { results := [.lit (.bool false)], args := [d1, d2, d3, d4] }
  | _ => none }
def EditDeniedWrongFalsely : Prop := editDeniedRow.holds Tryz.pinned (OpenSpec.ofChange editDeniedWrong)

/- THE SECOND FORM. 'bulk': how many values and letters a reading holds, each counted each time it is reached (what is shared counts as often as it is met; a slice's spare places count too). A statement '..UptoSaid' is the law's where the arguments, and the package variables that the reading takes, are together of bulk at most 1048576: NARROWER than '..Said'. Prove '..Said' where nothing that the law and all that it calls make is longer than what came in: it says more and counts as full. Else prove '..UptoSaid'. A law counts once. -/
mutual
def uptoBulk {H : Type} : DataW H → Nat
  | .lit (.string bytes) => bytes.length + 1
  | .lit _ => 1
  | .nil => 1
  | .ptr d => uptoBulk d + 1
  | .slice elems spare => uptoBulkAll elems + uptoBulkAll spare + 1
  | .agg parts => uptoBulkAll parts + 1
  | .iface _ d => uptoBulk d + 1
  | .map entries => uptoBulkEntries entries + 1
  | .held _ => 1
def uptoBulkAll {H : Type} : List (DataW H) → Nat
  | [] => 0
  | d :: r => uptoBulk d + uptoBulkAll r
def uptoBulkEntries {H : Type} : List (Lit × DataW H) → Nat
  | [] => 0
  | x :: r => uptoBulkEntry x + uptoBulkEntries r
def uptoBulkEntry {H : Type} : Lit × DataW H → Nat
  | (.string bytes, d) => bytes.length + uptoBulk d + 1
  | (_, d) => uptoBulk d + 1
 end
def uptoSmall : (H : Type) → List (DataW H) → Bool := fun _ ds => decide (uptoBulkAll ds ≤ 1048576)
def OpenSpec.upto (s : _root_.Go.ChangeSpec) : _root_.Go.OpenSpec := { _root_.Go.OpenSpec.ofChange s with cond := some uptoSmall }

/-- 'trclaw30.HistoryRevisions', WHERE WHAT IT READS IS OF BULK AT MOST 1048576: true; the input reads as it did. -/
def historyRevisionsUptoRow : OpenClaim := { program := "ytikmbicdjpkipaagreatdoor", sum := "9e1fcc3f3282f0681666031df6b2d2ad4163dfadfe14ba60ff1a9a9f52144033", func := "transclude/trclaw30.HistoryRevisions", spec := "historyRevisions", inPlace := ["internal/bytealg.IndexByteString", "internal/bytealg.CountString", "internal/bytealg.IndexString", "internal/abi.NoEscape", "internal/bytealg.MakeNoZero"], unfollowed := true, recurses := true, named := ["transclude/history.rules", "unicode/utf8.first", "unicode/utf8.acceptRanges", "internal/bytealg.MaxLen", "transclude/edit.rules"], plainKeys := false, apart := false, laid := [("unicode/utf8.acceptRanges", laid_unicode_utf8_acceptRanges), ("transclude/edit.rules", laid_transclude_edit_rules), ("transclude/history.rules", laid_transclude_history_rules), ("unicode/utf8.first", laid_unicode_utf8_first)], narrowed := true }
def HistoryRevisionsUptoSaid : Prop := historyRevisionsUptoRow.holds Tryz.pinned (OpenSpec.upto historyRevisionsSpec)

/-- 'trclaw30.HistoryDenied', WHERE WHAT IT READS IS OF BULK AT MOST 1048576: true; the input reads as it did. -/
def historyDeniedUptoRow : OpenClaim := { program := "ytikmbicdjpkipaagreatdoor", sum := "9e1fcc3f3282f0681666031df6b2d2ad4163dfadfe14ba60ff1a9a9f52144033", func := "transclude/trclaw30.HistoryDenied", spec := "historyDenied", inPlace := ["internal/bytealg.IndexByteString", "internal/bytealg.CountString", "internal/bytealg.IndexString", "internal/abi.NoEscape", "internal/bytealg.MakeNoZero"], unfollowed := true, recurses := true, named := ["transclude/history.rules", "unicode/utf8.first", "unicode/utf8.acceptRanges", "internal/bytealg.MaxLen", "transclude/edit.rules"], plainKeys := false, apart := false, laid := [("unicode/utf8.acceptRanges", laid_unicode_utf8_acceptRanges), ("transclude/edit.rules", laid_transclude_edit_rules), ("transclude/history.rules", laid_transclude_history_rules), ("unicode/utf8.first", laid_unicode_utf8_first)], narrowed := true }
def HistoryDeniedUptoSaid : Prop := historyDeniedUptoRow.holds Tryz.pinned (OpenSpec.upto historyDeniedSpec)

/-- 'trclaw29.EditPolicies', WHERE WHAT IT READS IS OF BULK AT MOST 1048576: true; the input reads as it did. -/
def editPoliciesUptoRow : OpenClaim := { program := "ytikmbicdjpkipaagreatdoor", sum := "9e1fcc3f3282f0681666031df6b2d2ad4163dfadfe14ba60ff1a9a9f52144033", func := "transclude/trclaw29.EditPolicies", spec := "editPolicies", inPlace := ["internal/bytealg.CountString", "internal/bytealg.IndexByteString", "internal/bytealg.IndexString", "internal/abi.NoEscape", "internal/bytealg.MakeNoZero", "slices.overlaps[transclude/api.Unit]"], unfollowed := true, recurses := true, named := ["transclude/edit.rules", "unicode/utf8.first", "unicode/utf8.acceptRanges", "internal/bytealg.MaxLen"], plainKeys := false, apart := false, laid := [("unicode/utf8.acceptRanges", laid_unicode_utf8_acceptRanges), ("transclude/edit.rules", laid_transclude_edit_rules), ("unicode/utf8.first", laid_unicode_utf8_first)], narrowed := true }
def EditPoliciesUptoSaid : Prop := editPoliciesUptoRow.holds Tryz.pinned (OpenSpec.upto editPoliciesSpec)

/-- 'trclaw29.EditDenied', WHERE WHAT IT READS IS OF BULK AT MOST 1048576: true; the input reads as it did. -/
def editDeniedUptoRow : OpenClaim := { program := "ytikmbicdjpkipaagreatdoor", sum := "9e1fcc3f3282f0681666031df6b2d2ad4163dfadfe14ba60ff1a9a9f52144033", func := "transclude/trclaw29.EditDenied", spec := "editDenied", inPlace := ["internal/bytealg.CountString", "internal/bytealg.IndexByteString", "internal/bytealg.IndexString", "internal/abi.NoEscape", "internal/bytealg.MakeNoZero", "slices.overlaps[transclude/api.Unit]"], unfollowed := true, recurses := true, named := ["transclude/edit.rules", "unicode/utf8.first", "unicode/utf8.acceptRanges", "internal/bytealg.MaxLen"], plainKeys := false, apart := false, laid := [("unicode/utf8.acceptRanges", laid_unicode_utf8_acceptRanges), ("transclude/edit.rules", laid_transclude_edit_rules), ("unicode/utf8.first", laid_unicode_utf8_first)], narrowed := true }
def EditDeniedUptoSaid : Prop := editDeniedUptoRow.holds Tryz.pinned (OpenSpec.upto editDeniedSpec)

end Rows
end Go.Proofs.YtikmbicdjpkipaaGreatDoor
