/-
  No cell of these rows narrows 'for every input' (looked for: loops, veiled, ifaces, maps, wideKeys, modest, calm, conditions, laid).
  DERIVED. THE GIVEN ROWS OF THIS SEAT. 10 by the template 'for every input the law returns true; each argument reads behind the call as it read before'; 0 by the template 'total and deterministic' (their statements: YtgleakjbgpmonaaTotals.lean).
  GIVEN WITH THE SEED: the statements are not yours to turn. If you find one false, say at which input.
  Laid BY PROGRAM, IN A SANDBOX (cutbox-rows.mjs): the forced cells as the released guide's own fill.sh prints them over the translation 1bdc176327d38f15… (all of the seat's roots in one cut). By AI agents, Wed Nov 11 2026. No macro, syntax, notation, axiom, sorry.
-/
import Derived.Test.YtgleakjbgpmonaaChecked
import GoSem.Claim
import GoSem.ClaimJoined
import GoSem.ClaimMapViews
import Derived.JoinedTies
import Derived.KernelRfl
namespace Go.Proofs.Ytgleakjbgpmonaa
/- THE CELL 'sum', in the pinned program and in every row, IS THE sha256 OF THE DUMP (.gsa) THAT YtgleakjbgpmonaaProg.lean LOADS. Nothing in Lean hashes anything: it is a label: what it is worth is what the hold of that sum in a sandbox is worth. -/
noncomputable def Try.pinned : Pinned := { name := "ytgleakjbgpmonaa", sum := "1bdc176327d38f153657d9e448a9d492a9db00c103435532994bc2664a606ee1", checked := Try.checked }
namespace Rows
def none {H : Type} : Left H := { results := [], args := [] }

/-- 'trclaw4.ParseExact': WHATEVER THE INPUT: true; the input reads as it did. -/
def parseExactSpec : ChangeSpec := { name := "parseExact", fn := fun _ => fun
  | [d] => { results := [.lit (.bool true)], args := [d] }
  | _ => none }
def parseExactRow : OpenClaim := { program := "ytgleakjbgpmonaa", sum := "1bdc176327d38f153657d9e448a9d492a9db00c103435532994bc2664a606ee1", func := "transclude/trclaw4.ParseExact", spec := "parseExact", inPlace := ["internal/bytealg.IndexByteString", "internal/bytealg.IndexString", "internal/abi.NoEscape", "internal/bytealg.MakeNoZero"], recurses := true, named := ["internal/bytealg.MaxLen"], apart := false }
def ParseExactSaid : Prop := parseExactRow.holds Try.pinned (OpenSpec.ofChange parseExactSpec)

/-- ITS FALSE NEIGHBOUR: 'it returns false'. Refute it at one input. -/
def parseExactWrong : ChangeSpec := { name := "parseExact", fn := fun _ => fun
  | [d] => { results := [.lit (.bool false)], args := [d] }
  | _ => none }
def ParseExactWrongFalsely : Prop := parseExactRow.holds Try.pinned (OpenSpec.ofChange parseExactWrong)

/-- 'trclaw4.ParseBuilt': WHATEVER THE INPUT: true; the input reads as it did. -/
def parseBuiltSpec : ChangeSpec := { name := "parseBuilt", fn := fun _ => fun
  | [d] => { results := [.lit (.bool true)], args := [d] }
  | _ => none }
def parseBuiltRow : OpenClaim := { program := "ytgleakjbgpmonaa", sum := "1bdc176327d38f153657d9e448a9d492a9db00c103435532994bc2664a606ee1", func := "transclude/trclaw4.ParseBuilt", spec := "parseBuilt", inPlace := ["internal/bytealg.IndexByteString", "internal/bytealg.IndexString", "internal/abi.NoEscape", "internal/bytealg.MakeNoZero"], recurses := true, named := ["internal/bytealg.MaxLen"], apart := false }
def ParseBuiltSaid : Prop := parseBuiltRow.holds Try.pinned (OpenSpec.ofChange parseBuiltSpec)

/-- ITS FALSE NEIGHBOUR: 'it returns false'. Refute it at one input. -/
def parseBuiltWrong : ChangeSpec := { name := "parseBuilt", fn := fun _ => fun
  | [d] => { results := [.lit (.bool false)], args := [d] }
  | _ => none }
def ParseBuiltWrongFalsely : Prop := parseBuiltRow.holds Try.pinned (OpenSpec.ofChange parseBuiltWrong)

/-- 'trclaw4.ParseNests': WHATEVER THE INPUT: true; the input reads as it did. -/
def parseNestsSpec : ChangeSpec := { name := "parseNests", fn := fun _ => fun
  | [d] => { results := [.lit (.bool true)], args := [d] }
  | _ => none }
def parseNestsRow : OpenClaim := { program := "ytgleakjbgpmonaa", sum := "1bdc176327d38f153657d9e448a9d492a9db00c103435532994bc2664a606ee1", func := "transclude/trclaw4.ParseNests", spec := "parseNests", inPlace := ["internal/abi.NoEscape", "internal/bytealg.MakeNoZero", "internal/bytealg.IndexByteString", "internal/bytealg.IndexString"], recurses := true, named := ["internal/bytealg.MaxLen"], apart := false }
def ParseNestsSaid : Prop := parseNestsRow.holds Try.pinned (OpenSpec.ofChange parseNestsSpec)

/-- ITS FALSE NEIGHBOUR: 'it returns false'. Refute it at one input. -/
def parseNestsWrong : ChangeSpec := { name := "parseNests", fn := fun _ => fun
  | [d] => { results := [.lit (.bool false)], args := [d] }
  | _ => none }
def ParseNestsWrongFalsely : Prop := parseNestsRow.holds Try.pinned (OpenSpec.ofChange parseNestsWrong)

/-- 'trclaw4.ParseRuns': WHATEVER THE INPUT: true; the input reads as it did. -/
def parseRunsSpec : ChangeSpec := { name := "parseRuns", fn := fun _ => fun
  | [d] => { results := [.lit (.bool true)], args := [d] }
  | _ => none }
def parseRunsRow : OpenClaim := { program := "ytgleakjbgpmonaa", sum := "1bdc176327d38f153657d9e448a9d492a9db00c103435532994bc2664a606ee1", func := "transclude/trclaw4.ParseRuns", spec := "parseRuns", inPlace := ["internal/abi.NoEscape", "internal/bytealg.MakeNoZero", "internal/bytealg.IndexByteString", "internal/bytealg.IndexString"], recurses := true, named := ["internal/bytealg.MaxLen"], apart := false }
def ParseRunsSaid : Prop := parseRunsRow.holds Try.pinned (OpenSpec.ofChange parseRunsSpec)

/-- ITS FALSE NEIGHBOUR: 'it returns false'. Refute it at one input. -/
def parseRunsWrong : ChangeSpec := { name := "parseRuns", fn := fun _ => fun
  | [d] => { results := [.lit (.bool false)], args := [d] }
  | _ => none }
def ParseRunsWrongFalsely : Prop := parseRunsRow.holds Try.pinned (OpenSpec.ofChange parseRunsWrong)

/-- 'trclaw4.ParseArguments': WHATEVER THE INPUT: true; the input reads as it did. -/
def parseArgumentsSpec : ChangeSpec := { name := "parseArguments", fn := fun _ => fun
  | [d] => { results := [.lit (.bool true)], args := [d] }
  | _ => none }
def parseArgumentsRow : OpenClaim := { program := "ytgleakjbgpmonaa", sum := "1bdc176327d38f153657d9e448a9d492a9db00c103435532994bc2664a606ee1", func := "transclude/trclaw4.ParseArguments", spec := "parseArguments", inPlace := ["internal/bytealg.IndexByteString", "internal/bytealg.IndexString", "internal/abi.NoEscape", "internal/bytealg.MakeNoZero"], recurses := true, named := ["internal/bytealg.MaxLen"], apart := false }
def ParseArgumentsSaid : Prop := parseArgumentsRow.holds Try.pinned (OpenSpec.ofChange parseArgumentsSpec)

/-- ITS FALSE NEIGHBOUR: 'it returns false'. Refute it at one input. -/
def parseArgumentsWrong : ChangeSpec := { name := "parseArguments", fn := fun _ => fun
  | [d] => { results := [.lit (.bool false)], args := [d] }
  | _ => none }
def ParseArgumentsWrongFalsely : Prop := parseArgumentsRow.holds Try.pinned (OpenSpec.ofChange parseArgumentsWrong)

/-- 'trclaw4.ParseTags': WHATEVER THE INPUT: true; the input reads as it did. -/
def parseTagsSpec : ChangeSpec := { name := "parseTags", fn := fun _ => fun
  | [d1, d2] => { results := [.lit (.bool true)], args := [d1, d2] }
  | _ => none }
def parseTagsRow : OpenClaim := { program := "ytgleakjbgpmonaa", sum := "1bdc176327d38f153657d9e448a9d492a9db00c103435532994bc2664a606ee1", func := "transclude/trclaw4.ParseTags", spec := "parseTags", inPlace := ["internal/bytealg.IndexByteString", "internal/bytealg.IndexString", "internal/abi.NoEscape", "internal/bytealg.MakeNoZero"], recurses := true, named := ["internal/bytealg.MaxLen"], apart := false }
def ParseTagsSaid : Prop := parseTagsRow.holds Try.pinned (OpenSpec.ofChange parseTagsSpec)

/-- ITS FALSE NEIGHBOUR: 'it returns false'. Refute it at one input. -/
def parseTagsWrong : ChangeSpec := { name := "parseTags", fn := fun _ => fun
  | [d1, d2] => { results := [.lit (.bool false)], args := [d1, d2] }
  | _ => none }
def ParseTagsWrongFalsely : Prop := parseTagsRow.holds Try.pinned (OpenSpec.ofChange parseTagsWrong)

/-- 'trclaw4.ParseJoined': WHATEVER THE INPUT: true; the input reads as it did. -/
def parseJoinedSpec : ChangeSpec := { name := "parseJoined", fn := fun _ => fun
  | [d] => { results := [.lit (.bool true)], args := [d] }
  | _ => none }
def parseJoinedRow : OpenClaim := { program := "ytgleakjbgpmonaa", sum := "1bdc176327d38f153657d9e448a9d492a9db00c103435532994bc2664a606ee1", func := "transclude/trclaw4.ParseJoined", spec := "parseJoined", inPlace := ["internal/bytealg.IndexByteString", "internal/bytealg.IndexString", "internal/abi.NoEscape", "internal/bytealg.MakeNoZero"], recurses := true, named := ["internal/bytealg.MaxLen"], apart := false }
def ParseJoinedSaid : Prop := parseJoinedRow.holds Try.pinned (OpenSpec.ofChange parseJoinedSpec)

/-- ITS FALSE NEIGHBOUR: 'it returns false'. Refute it at one input. -/
def parseJoinedWrong : ChangeSpec := { name := "parseJoined", fn := fun _ => fun
  | [d] => { results := [.lit (.bool false)], args := [d] }
  | _ => none }
def ParseJoinedWrongFalsely : Prop := parseJoinedRow.holds Try.pinned (OpenSpec.ofChange parseJoinedWrong)

/-- 'trclaw4.ParseKeeps': WHATEVER THE INPUT: true; the input reads as it did. -/
def parseKeepsSpec : ChangeSpec := { name := "parseKeeps", fn := fun _ => fun
  | [d] => { results := [.lit (.bool true)], args := [d] }
  | _ => none }
def parseKeepsRow : OpenClaim := { program := "ytgleakjbgpmonaa", sum := "1bdc176327d38f153657d9e448a9d492a9db00c103435532994bc2664a606ee1", func := "transclude/trclaw4.ParseKeeps", spec := "parseKeeps", inPlace := ["internal/bytealg.IndexByteString", "internal/bytealg.IndexString", "internal/abi.NoEscape", "internal/bytealg.MakeNoZero"], recurses := true, named := ["internal/bytealg.MaxLen"], apart := false }
def ParseKeepsSaid : Prop := parseKeepsRow.holds Try.pinned (OpenSpec.ofChange parseKeepsSpec)

/-- ITS FALSE NEIGHBOUR: 'it returns false'. Refute it at one input. -/
def parseKeepsWrong : ChangeSpec := { name := "parseKeeps", fn := fun _ => fun
  | [d] => { results := [.lit (.bool false)], args := [d] }
  | _ => none }
def ParseKeepsWrongFalsely : Prop := parseKeepsRow.holds Try.pinned (OpenSpec.ofChange parseKeepsWrong)

/-- 'trclaw4.ParseText': WHATEVER THE INPUT: true; the input reads as it did. -/
def parseTextSpec : ChangeSpec := { name := "parseText", fn := fun _ => fun
  | [d] => { results := [.lit (.bool true)], args := [d] }
  | _ => none }
def parseTextRow : OpenClaim := { program := "ytgleakjbgpmonaa", sum := "1bdc176327d38f153657d9e448a9d492a9db00c103435532994bc2664a606ee1", func := "transclude/trclaw4.ParseText", spec := "parseText", inPlace := ["internal/bytealg.IndexByteString", "internal/bytealg.IndexString", "internal/abi.NoEscape", "internal/bytealg.MakeNoZero"], recurses := true, named := ["internal/bytealg.MaxLen"], apart := false }
def ParseTextSaid : Prop := parseTextRow.holds Try.pinned (OpenSpec.ofChange parseTextSpec)

/-- ITS FALSE NEIGHBOUR: 'it returns false'. Refute it at one input. -/
def parseTextWrong : ChangeSpec := { name := "parseText", fn := fun _ => fun
  | [d] => { results := [.lit (.bool false)], args := [d] }
  | _ => none }
def ParseTextWrongFalsely : Prop := parseTextRow.holds Try.pinned (OpenSpec.ofChange parseTextWrong)

/-- 'trclaw4.ParseOpen': WHATEVER THE INPUT: true; the input reads as it did. -/
def parseOpenSpec : ChangeSpec := { name := "parseOpen", fn := fun _ => fun
  | [d1, d2] => { results := [.lit (.bool true)], args := [d1, d2] }
  | _ => none }
def parseOpenRow : OpenClaim := { program := "ytgleakjbgpmonaa", sum := "1bdc176327d38f153657d9e448a9d492a9db00c103435532994bc2664a606ee1", func := "transclude/trclaw4.ParseOpen", spec := "parseOpen", inPlace := ["internal/bytealg.IndexByteString", "internal/bytealg.IndexString", "internal/abi.NoEscape", "internal/bytealg.MakeNoZero"], recurses := true, named := ["internal/bytealg.MaxLen"], apart := false }
def ParseOpenSaid : Prop := parseOpenRow.holds Try.pinned (OpenSpec.ofChange parseOpenSpec)

/-- ITS FALSE NEIGHBOUR: 'it returns false'. Refute it at one input. -/
def parseOpenWrong : ChangeSpec := { name := "parseOpen", fn := fun _ => fun
  | [d1, d2] => { results := [.lit (.bool false)], args := [d1, d2] }
  | _ => none }
def ParseOpenWrongFalsely : Prop := parseOpenRow.holds Try.pinned (OpenSpec.ofChange parseOpenWrong)

/- THE SECOND FORM. 'bulk': how many values and letters a reading holds, each counted each time it is reached (what is shared counts as often as it is met; a slice's spare places count too). A statement '..UptoSaid' is the law's where the arguments, and the package variables that the reading takes, are together of bulk at most 1048576: NARROWER than '..Said'. Prove '..Said' where nothing that the law and all that it calls make is longer than what came in: it says more and counts as full. Else prove '..UptoSaid'. A law counts once. -/
mutual
def uptoBulk {H : Type} : DataW H → Nat
  | .lit (.string bytes) => bytes.length + 1
  | .lit _ => 1
  | .nil => 1
  | .ptr d => uptoBulk d + 1
  | .slice elems spare => uptoBulkAll elems + uptoBulkAll spare + 1
  | .agg parts => uptoBulkAll parts + 1
  | .iface _ d => uptoBulk d + 1
  | .map entries => uptoBulkEntries entries + 1
  | .held _ => 1
def uptoBulkAll {H : Type} : List (DataW H) → Nat
  | [] => 0
  | d :: r => uptoBulk d + uptoBulkAll r
def uptoBulkEntries {H : Type} : List (Lit × DataW H) → Nat
  | [] => 0
  | x :: r => uptoBulkEntry x + uptoBulkEntries r
def uptoBulkEntry {H : Type} : Lit × DataW H → Nat
  | (.string bytes, d) => bytes.length + uptoBulk d + 1
  | (_, d) => uptoBulk d + 1
 end
def uptoSmall : (H : Type) → List (DataW H) → Bool := fun _ ds => decide (uptoBulkAll ds ≤ 1048576)
def OpenSpec.upto (s : _root_.Go.ChangeSpec) : _root_.Go.OpenSpec := { _root_.Go.OpenSpec.ofChange s with cond := some uptoSmall }

/-- 'trclaw4.ParseExact', WHERE WHAT IT READS IS OF BULK AT MOST 1048576: true; the input reads as it did. -/
def parseExactUptoRow : OpenClaim := { program := "ytgleakjbgpmonaa", sum := "1bdc176327d38f153657d9e448a9d492a9db00c103435532994bc2664a606ee1", func := "transclude/trclaw4.ParseExact", spec := "parseExact", inPlace := ["internal/bytealg.IndexByteString", "internal/bytealg.IndexString", "internal/abi.NoEscape", "internal/bytealg.MakeNoZero"], recurses := true, named := ["internal/bytealg.MaxLen"], apart := false, narrowed := true }
def ParseExactUptoSaid : Prop := parseExactUptoRow.holds Try.pinned (OpenSpec.upto parseExactSpec)

/-- 'trclaw4.ParseBuilt', WHERE WHAT IT READS IS OF BULK AT MOST 1048576: true; the input reads as it did. -/
def parseBuiltUptoRow : OpenClaim := { program := "ytgleakjbgpmonaa", sum := "1bdc176327d38f153657d9e448a9d492a9db00c103435532994bc2664a606ee1", func := "transclude/trclaw4.ParseBuilt", spec := "parseBuilt", inPlace := ["internal/bytealg.IndexByteString", "internal/bytealg.IndexString", "internal/abi.NoEscape", "internal/bytealg.MakeNoZero"], recurses := true, named := ["internal/bytealg.MaxLen"], apart := false, narrowed := true }
def ParseBuiltUptoSaid : Prop := parseBuiltUptoRow.holds Try.pinned (OpenSpec.upto parseBuiltSpec)

/-- 'trclaw4.ParseNests', WHERE WHAT IT READS IS OF BULK AT MOST 1048576: true; the input reads as it did. -/
def parseNestsUptoRow : OpenClaim := { program := "ytgleakjbgpmonaa", sum := "1bdc176327d38f153657d9e448a9d492a9db00c103435532994bc2664a606ee1", func := "transclude/trclaw4.ParseNests", spec := "parseNests", inPlace := ["internal/abi.NoEscape", "internal/bytealg.MakeNoZero", "internal/bytealg.IndexByteString", "internal/bytealg.IndexString"], recurses := true, named := ["internal/bytealg.MaxLen"], apart := false, narrowed := true }
def ParseNestsUptoSaid : Prop := parseNestsUptoRow.holds Try.pinned (OpenSpec.upto parseNestsSpec)

/-- 'trclaw4.ParseRuns', WHERE WHAT IT READS IS OF BULK AT MOST 1048576: true; the input reads as it did. -/
def parseRunsUptoRow : OpenClaim := { program := "ytgleakjbgpmonaa", sum := "1bdc176327d38f153657d9e448a9d492a9db00c103435532994bc2664a606ee1", func := "transclude/trclaw4.ParseRuns", spec := "parseRuns", inPlace := ["internal/abi.NoEscape", "internal/bytealg.MakeNoZero", "internal/bytealg.IndexByteString", "internal/bytealg.IndexString"], recurses := true, named := ["internal/bytealg.MaxLen"], apart := false, narrowed := true }
def ParseRunsUptoSaid : Prop := parseRunsUptoRow.holds Try.pinned (OpenSpec.upto parseRunsSpec)

/-- 'trclaw4.ParseArguments', WHERE WHAT IT READS IS OF BULK AT MOST 1048576: true; the input reads as it did. -/
def parseArgumentsUptoRow : OpenClaim := { program := "ytgleakjbgpmonaa", sum := "1bdc176327d38f153657d9e448a9d492a9db00c103435532994bc2664a606ee1", func := "transclude/trclaw4.ParseArguments", spec := "parseArguments", inPlace := ["internal/bytealg.IndexByteString", "internal/bytealg.IndexString", "internal/abi.NoEscape", "internal/bytealg.MakeNoZero"], recurses := true, named := ["internal/bytealg.MaxLen"], apart := false, narrowed := true }
def ParseArgumentsUptoSaid : Prop := parseArgumentsUptoRow.holds Try.pinned (OpenSpec.upto parseArgumentsSpec)

/-- 'trclaw4.ParseTags', WHERE WHAT IT READS IS OF BULK AT MOST 1048576: true; the input reads as it did. -/
def parseTagsUptoRow : OpenClaim := { program := "ytgleakjbgpmonaa", sum := "1bdc176327d38f153657d9e448a9d492a9db00c103435532994bc2664a606ee1", func := "transclude/trclaw4.ParseTags", spec := "parseTags", inPlace := ["internal/bytealg.IndexByteString", "internal/bytealg.IndexString", "internal/abi.NoEscape", "internal/bytealg.MakeNoZero"], recurses := true, named := ["internal/bytealg.MaxLen"], apart := false, narrowed := true }
def ParseTagsUptoSaid : Prop := parseTagsUptoRow.holds Try.pinned (OpenSpec.upto parseTagsSpec)

/-- 'trclaw4.ParseJoined', WHERE WHAT IT READS IS OF BULK AT MOST 1048576: true; the input reads as it did. -/
def parseJoinedUptoRow : OpenClaim := { program := "ytgleakjbgpmonaa", sum := "1bdc176327d38f153657d9e448a9d492a9db00c103435532994bc2664a606ee1", func := "transclude/trclaw4.ParseJoined", spec := "parseJoined", inPlace := ["internal/bytealg.IndexByteString", "internal/bytealg.IndexString", "internal/abi.NoEscape", "internal/bytealg.MakeNoZero"], recurses := true, named := ["internal/bytealg.MaxLen"], apart := false, narrowed := true }
def ParseJoinedUptoSaid : Prop := parseJoinedUptoRow.holds Try.pinned (OpenSpec.upto parseJoinedSpec)

/-- 'trclaw4.ParseKeeps', WHERE WHAT IT READS IS OF BULK AT MOST 1048576: true; the input reads as it did. -/
def parseKeepsUptoRow : OpenClaim := { program := "ytgleakjbgpmonaa", sum := "1bdc176327d38f153657d9e448a9d492a9db00c103435532994bc2664a606ee1", func := "transclude/trclaw4.ParseKeeps", spec := "parseKeeps", inPlace := ["internal/bytealg.IndexByteString", "internal/bytealg.IndexString", "internal/abi.NoEscape", "internal/bytealg.MakeNoZero"], recurses := true, named := ["internal/bytealg.MaxLen"], apart := false, narrowed := true }
def ParseKeepsUptoSaid : Prop := parseKeepsUptoRow.holds Try.pinned (OpenSpec.upto parseKeepsSpec)

/-- 'trclaw4.ParseText', WHERE WHAT IT READS IS OF BULK AT MOST 1048576: true; the input reads as it did. -/
def parseTextUptoRow : OpenClaim := { program := "ytgleakjbgpmonaa", sum := "1bdc176327d38f153657d9e448a9d492a9db00c103435532994bc2664a606ee1", func := "transclude/trclaw4.ParseText", spec := "parseText", inPlace := ["internal/bytealg.IndexByteString", "internal/bytealg.IndexString", "internal/abi.NoEscape", "internal/bytealg.MakeNoZero"], recurses := true, named := ["internal/bytealg.MaxLen"], apart := false, narrowed := true }
def ParseTextUptoSaid : Prop := parseTextUptoRow.holds Try.pinned (OpenSpec.upto parseTextSpec)

/-- 'trclaw4.ParseOpen', WHERE WHAT IT READS IS OF BULK AT MOST 1048576: true; the input reads as it did. -/
def parseOpenUptoRow : OpenClaim := { program := "ytgleakjbgpmonaa", sum := "1bdc176327d38f153657d9e448a9d492a9db00c103435532994bc2664a606ee1", func := "transclude/trclaw4.ParseOpen", spec := "parseOpen", inPlace := ["internal/bytealg.IndexByteString", "internal/bytealg.IndexString", "internal/abi.NoEscape", "internal/bytealg.MakeNoZero"], recurses := true, named := ["internal/bytealg.MaxLen"], apart := false, narrowed := true }
def ParseOpenUptoSaid : Prop := parseOpenUptoRow.holds Try.pinned (OpenSpec.upto parseOpenSpec)

end Rows
end Go.Proofs.Ytgleakjbgpmonaa
