/-
  NARROWER THAN 'FOR EVERY INPUT', by the rows' own cells (each row's printed sentence says how): MarkSums: laid · MarkSpoilt: laid · MarkApart: laid · MarkSeals: laid · MarkOpens: laid · LeOuts: laid · LeReads: laid · LeNil: laid.
  DERIVED. THE GIVEN ROWS OF THIS SEAT. 8 by the template 'for every input the law returns true; each argument reads behind the call as it read before'; 0 by the template 'total and deterministic' (their statements: YtdlmgjpnlgdpkaaDoorTotals.lean).
  GIVEN WITH THE SEED: the statements are not yours to turn. If you find one false, say at which input.
  Laid BY PROGRAM, IN A SANDBOX (cutbox-rows.mjs): the forced cells as the released guide's own fill.sh prints them over the translation e13ef480073ca50b… (all of the seat's roots in one cut). By AI agents, Wed Nov 11 2026. No macro, syntax, notation, axiom, sorry.
-/
import Derived.Test.YtdlmgjpnlgdpkaaDoorChecked
import GoSem.PinnedTables
import GoSem.Claim
import GoSem.ClaimJoined
import GoSem.ClaimMapViews
import Derived.JoinedTies
import Derived.KernelRfl
namespace Go.Proofs.YtdlmgjpnlgdpkaaDoor
/- THE CELL 'sum', in the pinned program and in every row, IS THE sha256 OF THE DUMP (.gsa) THAT YtdlmgjpnlgdpkaaDoorProg.lean LOADS. Nothing in Lean hashes anything: it is a label: what it is worth is what the hold of that sum in a sandbox is worth. -/
noncomputable def Tryd.pinned : Pinned := { name := "ytdlmgjpnlgdpkaadoor", sum := "e13ef480073ca50ba3abd6352591518ea62602df6507bf67d1bb9f9dc9b3532e", checked := Tryd.checked }
namespace Rows
def none {H : Type} : Left H := { results := [], args := [] }

/- WHAT THE LISTED PACKAGE-LEVEL VARIABLES READ AS WHEN THE CALL BEGINS. Each datum BY PROGRAM (the guide's laid-datum.mjs) off the statement by which the dump's own 'gosem.cut.vars' lays the variable. In a bare row this is a premise. The card (YtdlmgjpnlgdpkaaDoorCards.lean) ties it to the program's text. -/
def laid_posthorse_mark_nibbles {H : Type} : DataW H := .agg [.lit (.int .u32 0), .lit (.int .u32 274646895), .lit (.int .u32 549293790), .lit (.int .u32 820201905), .lit (.int .u32 1098587580), .lit (.int .u32 1361435347), .lit (.int .u32 1640403810), .lit (.int .u32 1905808397), .lit (.int .u32 2197175160), .lit (.int .u32 2460548119), .lit (.int .u32 2722870694), .lit (.int .u32 2987750089), .lit (.int .u32 3280807620), .lit (.int .u32 3553878443), .lit (.int .u32 3811616794), .lit (.int .u32 4084100981)]
def laid_errors_errorType {H : Type} : DataW H := .iface "internal/reflectlite.rtype" (.agg [.ptr (.lit (.string [101, 114, 114, 111, 114]))])
def laid_unicode_utf8_acceptRanges {H : Type} : DataW H := .agg [.agg [.lit (.int .u8 128), .lit (.int .u8 191)], .agg [.lit (.int .u8 160), .lit (.int .u8 191)], .agg [.lit (.int .u8 128), .lit (.int .u8 159)], .agg [.lit (.int .u8 144), .lit (.int .u8 191)], .agg [.lit (.int .u8 128), .lit (.int .u8 143)], .agg [.lit (.int .u8 0), .lit (.int .u8 0)], .agg [.lit (.int .u8 0), .lit (.int .u8 0)], .agg [.lit (.int .u8 0), .lit (.int .u8 0)], .agg [.lit (.int .u8 0), .lit (.int .u8 0)], .agg [.lit (.int .u8 0), .lit (.int .u8 0)], .agg [.lit (.int .u8 0), .lit (.int .u8 0)], .agg [.lit (.int .u8 0), .lit (.int .u8 0)], .agg [.lit (.int .u8 0), .lit (.int .u8 0)], .agg [.lit (.int .u8 0), .lit (.int .u8 0)], .agg [.lit (.int .u8 0), .lit (.int .u8 0)], .agg [.lit (.int .u8 0), .lit (.int .u8 0)]]
/-- One of Go's own tables, pinned by name: the form's constant. -/
def laid_unicode_utf8_first : DataW Unit := Go.Pinned.utf8First

/-- 'posthorselaw03.MarkSums': WHATEVER THE INPUT: true; the input reads as it did. -/
def markSumsSpec : ChangeSpec := { name := "markSums", fn := fun _ => fun
  | [d] => { results := [.lit (.bool true)], args := [d] }
  | _ => none }
def markSumsRow : OpenClaim := { program := "ytdlmgjpnlgdpkaadoor", sum := "e13ef480073ca50ba3abd6352591518ea62602df6507bf67d1bb9f9dc9b3532e", func := "posthorse/posthorselaw03.MarkSums", spec := "markSums", inPlace := ["internal/abi.NoEscape", "internal/bytealg.MakeNoZero"], named := ["posthorse/mark.nibbles"], apart := false, laid := [("posthorse/mark.nibbles", laid_posthorse_mark_nibbles)] }
def MarkSumsSaid : Prop := markSumsRow.holds Tryd.pinned (OpenSpec.ofChange markSumsSpec)

/-- ITS FALSE NEIGHBOUR: 'it returns false'. Refute it at one input. -/
def markSumsWrong : ChangeSpec := { name := "markSums", fn := fun _ => fun
  | [d] => { results := [.lit (.bool false)], args := [d] }
  | _ => none }
def MarkSumsWrongFalsely : Prop := markSumsRow.holds Tryd.pinned (OpenSpec.ofChange markSumsWrong)

/-- 'posthorselaw03.MarkSpoilt': WHATEVER THE INPUT: true; the input reads as it did. -/
def markSpoiltSpec : ChangeSpec := { name := "markSpoilt", fn := fun _ => fun
  | [d1, d2, d3] => { results := [.lit (.bool true)], args := [d1, d2, d3] }
  | _ => none }
def markSpoiltRow : OpenClaim := { program := "ytdlmgjpnlgdpkaadoor", sum := "e13ef480073ca50ba3abd6352591518ea62602df6507bf67d1bb9f9dc9b3532e", func := "posthorse/posthorselaw03.MarkSpoilt", spec := "markSpoilt", inPlace := ["internal/abi.NoEscape", "internal/bytealg.MakeNoZero"], named := ["posthorse/mark.nibbles"], apart := false, laid := [("posthorse/mark.nibbles", laid_posthorse_mark_nibbles)] }
def MarkSpoiltSaid : Prop := markSpoiltRow.holds Tryd.pinned (OpenSpec.ofChange markSpoiltSpec)

/-- ITS FALSE NEIGHBOUR: 'it returns false'. Refute it at one input. -/
def markSpoiltWrong : ChangeSpec := { name := "markSpoilt", fn := fun _ => fun
  | [d1, d2, d3] => { results := [.lit (.bool false)], args := [d1, d2, d3] }
  | _ => none }
def MarkSpoiltWrongFalsely : Prop := markSpoiltRow.holds Tryd.pinned (OpenSpec.ofChange markSpoiltWrong)

/-- 'posthorselaw03.MarkApart': WHATEVER THE INPUT: true; the input reads as it did. -/
def markApartSpec : ChangeSpec := { name := "markApart", fn := fun _ => fun
  | [d1, d2, d3] => { results := [.lit (.bool true)], args := [d1, d2, d3] }
  | _ => none }
def markApartRow : OpenClaim := { program := "ytdlmgjpnlgdpkaadoor", sum := "e13ef480073ca50ba3abd6352591518ea62602df6507bf67d1bb9f9dc9b3532e", func := "posthorse/posthorselaw03.MarkApart", spec := "markApart", inPlace := ["internal/abi.NoEscape", "internal/bytealg.MakeNoZero"], named := ["posthorse/mark.nibbles"], apart := false, laid := [("posthorse/mark.nibbles", laid_posthorse_mark_nibbles)] }
def MarkApartSaid : Prop := markApartRow.holds Tryd.pinned (OpenSpec.ofChange markApartSpec)

/-- ITS FALSE NEIGHBOUR: 'it returns false'. Refute it at one input. -/
def markApartWrong : ChangeSpec := { name := "markApart", fn := fun _ => fun
  | [d1, d2, d3] => { results := [.lit (.bool false)], args := [d1, d2, d3] }
  | _ => none }
def MarkApartWrongFalsely : Prop := markApartRow.holds Tryd.pinned (OpenSpec.ofChange markApartWrong)

/-- 'posthorselaw03.MarkSeals': WHATEVER THE INPUT: true; the input reads as it did. -/
def markSealsSpec : ChangeSpec := { name := "markSeals", fn := fun _ => fun
  | [d1, d2] => { results := [.lit (.bool true)], args := [d1, d2] }
  | _ => none }
def markSealsRow : OpenClaim := { program := "ytdlmgjpnlgdpkaadoor", sum := "e13ef480073ca50ba3abd6352591518ea62602df6507bf67d1bb9f9dc9b3532e", func := "posthorse/posthorselaw03.MarkSeals", spec := "markSeals", inPlace := ["internal/abi.NoEscape", "internal/bytealg.MakeNoZero", "internal/reflectlite.ValueOf", "(internal/reflectlite.Value).Type", "(internal/reflectlite.Value).IsNil", "internal/reflectlite.TypeOf", "(internal/reflectlite.Value).Elem", "(internal/reflectlite.Value).Set"], unfollowed := true, recurses := true, named := ["posthorse/mark.nibbles", "errors.errorType"], apart := false, laid := [("errors.errorType", laid_errors_errorType), ("posthorse/mark.nibbles", laid_posthorse_mark_nibbles)] }
def MarkSealsSaid : Prop := markSealsRow.holds Tryd.pinned (OpenSpec.ofChange markSealsSpec)

/-- ITS FALSE NEIGHBOUR: 'it returns false'. Refute it at one input. -/
def markSealsWrong : ChangeSpec := { name := "markSeals", fn := fun _ => fun
  | [d1, d2] => { results := [.lit (.bool false)], args := [d1, d2] }
  | _ => none }
def MarkSealsWrongFalsely : Prop := markSealsRow.holds Tryd.pinned (OpenSpec.ofChange markSealsWrong)

/-- 'posthorselaw03.MarkOpens': WHATEVER THE INPUT: true; the input reads as it did. -/
def markOpensSpec : ChangeSpec := { name := "markOpens", fn := fun _ => fun
  | [d1, d2] => { results := [.lit (.bool true)], args := [d1, d2] }
  | _ => none }
def markOpensRow : OpenClaim := { program := "ytdlmgjpnlgdpkaadoor", sum := "e13ef480073ca50ba3abd6352591518ea62602df6507bf67d1bb9f9dc9b3532e", func := "posthorse/posthorselaw03.MarkOpens", spec := "markOpens", inPlace := ["internal/abi.NoEscape", "internal/bytealg.MakeNoZero", "internal/reflectlite.ValueOf", "(internal/reflectlite.Value).Type", "(internal/reflectlite.Value).IsNil", "internal/reflectlite.TypeOf", "(internal/reflectlite.Value).Elem", "(internal/reflectlite.Value).Set"], unfollowed := true, recurses := true, named := ["posthorse/mark.nibbles", "errors.errorType"], apart := false, laid := [("errors.errorType", laid_errors_errorType), ("posthorse/mark.nibbles", laid_posthorse_mark_nibbles)] }
def MarkOpensSaid : Prop := markOpensRow.holds Tryd.pinned (OpenSpec.ofChange markOpensSpec)

/-- ITS FALSE NEIGHBOUR: 'it returns false'. Refute it at one input. -/
def markOpensWrong : ChangeSpec := { name := "markOpens", fn := fun _ => fun
  | [d1, d2] => { results := [.lit (.bool false)], args := [d1, d2] }
  | _ => none }
def MarkOpensWrongFalsely : Prop := markOpensRow.holds Tryd.pinned (OpenSpec.ofChange markOpensWrong)

/-- 'posthorselaw01.LeOuts': WHATEVER THE INPUT: true; the input reads as it did. -/
def leOutsSpec : ChangeSpec := { name := "leOuts", fn := fun _ => fun
  | [d] => { results := [.lit (.bool true)], args := [d] }
  | _ => none }
def leOutsRow : OpenClaim := { program := "ytdlmgjpnlgdpkaadoor", sum := "e13ef480073ca50ba3abd6352591518ea62602df6507bf67d1bb9f9dc9b3532e", func := "posthorse/posthorselaw01.LeOuts", spec := "leOuts", inPlace := ["internal/abi.NoEscape", "internal/bytealg.MakeNoZero", "internal/reflectlite.ValueOf", "(internal/reflectlite.Value).Type", "(internal/reflectlite.Value).IsNil", "internal/reflectlite.TypeOf", "(internal/reflectlite.Value).Elem", "(internal/reflectlite.Value).Set"], unfollowed := true, recurses := true, named := ["errors.errorType"], apart := false, laid := [("errors.errorType", laid_errors_errorType)] }
def LeOutsSaid : Prop := leOutsRow.holds Tryd.pinned (OpenSpec.ofChange leOutsSpec)

/-- ITS FALSE NEIGHBOUR: 'it returns false'. Refute it at one input. -/
def leOutsWrong : ChangeSpec := { name := "leOuts", fn := fun _ => fun
  | [d] => { results := [.lit (.bool false)], args := [d] }
  | _ => none }
def LeOutsWrongFalsely : Prop := leOutsRow.holds Tryd.pinned (OpenSpec.ofChange leOutsWrong)

/-- 'posthorselaw01.LeReads': WHATEVER THE INPUT: true; the input reads as it did. -/
def leReadsSpec : ChangeSpec := { name := "leReads", fn := fun _ => fun
  | [d1, d2] => { results := [.lit (.bool true)], args := [d1, d2] }
  | _ => none }
def leReadsRow : OpenClaim := { program := "ytdlmgjpnlgdpkaadoor", sum := "e13ef480073ca50ba3abd6352591518ea62602df6507bf67d1bb9f9dc9b3532e", func := "posthorse/posthorselaw01.LeReads", spec := "leReads", inPlace := ["internal/abi.NoEscape", "internal/bytealg.MakeNoZero", "internal/bytealg.IndexByteString", "internal/bytealg.IndexString", "internal/reflectlite.ValueOf", "(internal/reflectlite.Value).Type", "(internal/reflectlite.Value).IsNil", "internal/reflectlite.TypeOf", "(internal/reflectlite.Value).Elem", "(internal/reflectlite.Value).Set"], unfollowed := true, recurses := true, named := ["unicode/utf8.first", "unicode/utf8.acceptRanges", "errors.errorType", "internal/bytealg.MaxLen"], apart := false, laid := [("unicode/utf8.acceptRanges", laid_unicode_utf8_acceptRanges), ("errors.errorType", laid_errors_errorType), ("unicode/utf8.first", laid_unicode_utf8_first)] }
def LeReadsSaid : Prop := leReadsRow.holds Tryd.pinned (OpenSpec.ofChange leReadsSpec)

/-- ITS FALSE NEIGHBOUR: 'it returns false'. Refute it at one input. -/
def leReadsWrong : ChangeSpec := { name := "leReads", fn := fun _ => fun
  | [d1, d2] => { results := [.lit (.bool false)], args := [d1, d2] }
  | _ => none }
def LeReadsWrongFalsely : Prop := leReadsRow.holds Tryd.pinned (OpenSpec.ofChange leReadsWrong)

/-- 'posthorselaw01.LeNil': WHATEVER THE INPUT: true; the input reads as it did. -/
def leNilSpec : ChangeSpec := { name := "leNil", fn := fun _ => fun
  | [d1, d2] => { results := [.lit (.bool true)], args := [d1, d2] }
  | _ => none }
def leNilRow : OpenClaim := { program := "ytdlmgjpnlgdpkaadoor", sum := "e13ef480073ca50ba3abd6352591518ea62602df6507bf67d1bb9f9dc9b3532e", func := "posthorse/posthorselaw01.LeNil", spec := "leNil", inPlace := ["internal/abi.NoEscape", "internal/bytealg.MakeNoZero", "internal/bytealg.IndexByteString", "internal/bytealg.IndexString", "internal/reflectlite.ValueOf", "(internal/reflectlite.Value).Type", "(internal/reflectlite.Value).IsNil", "internal/reflectlite.TypeOf", "(internal/reflectlite.Value).Elem", "(internal/reflectlite.Value).Set"], unfollowed := true, recurses := true, named := ["unicode/utf8.first", "unicode/utf8.acceptRanges", "errors.errorType", "internal/bytealg.MaxLen"], apart := false, laid := [("unicode/utf8.acceptRanges", laid_unicode_utf8_acceptRanges), ("errors.errorType", laid_errors_errorType), ("unicode/utf8.first", laid_unicode_utf8_first)] }
def LeNilSaid : Prop := leNilRow.holds Tryd.pinned (OpenSpec.ofChange leNilSpec)

/-- ITS FALSE NEIGHBOUR: 'it returns false'. Refute it at one input. -/
def leNilWrong : ChangeSpec := { name := "leNil", fn := fun _ => fun
  | [d1, d2] => { results := [.lit (.bool false)], args := [d1, d2] }
  | _ => none }
def LeNilWrongFalsely : Prop := leNilRow.holds Tryd.pinned (OpenSpec.ofChange leNilWrong)

/- THE SECOND FORM. 'bulk': how many values and letters a reading holds, each counted each time it is reached (what is shared counts as often as it is met; a slice's spare places count too). A statement '..UptoSaid' is the law's where the arguments, and the package variables that the reading takes, are together of bulk at most 1048576: NARROWER than '..Said'. Prove '..Said' where nothing that the law and all that it calls make is longer than what came in: it says more and counts as full. Else prove '..UptoSaid'. A law counts once. -/
mutual
def uptoBulk {H : Type} : DataW H → Nat
  | .lit (.string bytes) => bytes.length + 1
  | .lit _ => 1
  | .nil => 1
  | .ptr d => uptoBulk d + 1
  | .slice elems spare => uptoBulkAll elems + uptoBulkAll spare + 1
  | .agg parts => uptoBulkAll parts + 1
  | .iface _ d => uptoBulk d + 1
  | .map entries => uptoBulkEntries entries + 1
  | .held _ => 1
def uptoBulkAll {H : Type} : List (DataW H) → Nat
  | [] => 0
  | d :: r => uptoBulk d + uptoBulkAll r
def uptoBulkEntries {H : Type} : List (Lit × DataW H) → Nat
  | [] => 0
  | x :: r => uptoBulkEntry x + uptoBulkEntries r
def uptoBulkEntry {H : Type} : Lit × DataW H → Nat
  | (.string bytes, d) => bytes.length + uptoBulk d + 1
  | (_, d) => uptoBulk d + 1
 end
def uptoSmall : (H : Type) → List (DataW H) → Bool := fun _ ds => decide (uptoBulkAll ds ≤ 1048576)
def OpenSpec.upto (s : _root_.Go.ChangeSpec) : _root_.Go.OpenSpec := { _root_.Go.OpenSpec.ofChange s with cond := some uptoSmall }

/-- 'posthorselaw03.MarkSums', WHERE WHAT IT READS IS OF BULK AT MOST 1048576: true; the input reads as it did. -/
def markSumsUptoRow : OpenClaim := { program := "ytdlmgjpnlgdpkaadoor", sum := "e13ef480073ca50ba3abd6352591518ea62602df6507bf67d1bb9f9dc9b3532e", func := "posthorse/posthorselaw03.MarkSums", spec := "markSums", inPlace := ["internal/abi.NoEscape", "internal/bytealg.MakeNoZero"], named := ["posthorse/mark.nibbles"], apart := false, laid := [("posthorse/mark.nibbles", laid_posthorse_mark_nibbles)], narrowed := true }
def MarkSumsUptoSaid : Prop := markSumsUptoRow.holds Tryd.pinned (OpenSpec.upto markSumsSpec)

/-- 'posthorselaw03.MarkSpoilt', WHERE WHAT IT READS IS OF BULK AT MOST 1048576: true; the input reads as it did. -/
def markSpoiltUptoRow : OpenClaim := { program := "ytdlmgjpnlgdpkaadoor", sum := "e13ef480073ca50ba3abd6352591518ea62602df6507bf67d1bb9f9dc9b3532e", func := "posthorse/posthorselaw03.MarkSpoilt", spec := "markSpoilt", inPlace := ["internal/abi.NoEscape", "internal/bytealg.MakeNoZero"], named := ["posthorse/mark.nibbles"], apart := false, laid := [("posthorse/mark.nibbles", laid_posthorse_mark_nibbles)], narrowed := true }
def MarkSpoiltUptoSaid : Prop := markSpoiltUptoRow.holds Tryd.pinned (OpenSpec.upto markSpoiltSpec)

/-- 'posthorselaw03.MarkApart', WHERE WHAT IT READS IS OF BULK AT MOST 1048576: true; the input reads as it did. -/
def markApartUptoRow : OpenClaim := { program := "ytdlmgjpnlgdpkaadoor", sum := "e13ef480073ca50ba3abd6352591518ea62602df6507bf67d1bb9f9dc9b3532e", func := "posthorse/posthorselaw03.MarkApart", spec := "markApart", inPlace := ["internal/abi.NoEscape", "internal/bytealg.MakeNoZero"], named := ["posthorse/mark.nibbles"], apart := false, laid := [("posthorse/mark.nibbles", laid_posthorse_mark_nibbles)], narrowed := true }
def MarkApartUptoSaid : Prop := markApartUptoRow.holds Tryd.pinned (OpenSpec.upto markApartSpec)

/-- 'posthorselaw03.MarkSeals', WHERE WHAT IT READS IS OF BULK AT MOST 1048576: true; the input reads as it did. -/
def markSealsUptoRow : OpenClaim := { program := "ytdlmgjpnlgdpkaadoor", sum := "e13ef480073ca50ba3abd6352591518ea62602df6507bf67d1bb9f9dc9b3532e", func := "posthorse/posthorselaw03.MarkSeals", spec := "markSeals", inPlace := ["internal/abi.NoEscape", "internal/bytealg.MakeNoZero", "internal/reflectlite.ValueOf", "(internal/reflectlite.Value).Type", "(internal/reflectlite.Value).IsNil", "internal/reflectlite.TypeOf", "(internal/reflectlite.Value).Elem", "(internal/reflectlite.Value).Set"], unfollowed := true, recurses := true, named := ["posthorse/mark.nibbles", "errors.errorType"], apart := false, laid := [("errors.errorType", laid_errors_errorType), ("posthorse/mark.nibbles", laid_posthorse_mark_nibbles)], narrowed := true }
def MarkSealsUptoSaid : Prop := markSealsUptoRow.holds Tryd.pinned (OpenSpec.upto markSealsSpec)

/-- 'posthorselaw03.MarkOpens', WHERE WHAT IT READS IS OF BULK AT MOST 1048576: true; the input reads as it did. -/
def markOpensUptoRow : OpenClaim := { program := "ytdlmgjpnlgdpkaadoor", sum := "e13ef480073ca50ba3abd6352591518ea62602df6507bf67d1bb9f9dc9b3532e", func := "posthorse/posthorselaw03.MarkOpens", spec := "markOpens", inPlace := ["internal/abi.NoEscape", "internal/bytealg.MakeNoZero", "internal/reflectlite.ValueOf", "(internal/reflectlite.Value).Type", "(internal/reflectlite.Value).IsNil", "internal/reflectlite.TypeOf", "(internal/reflectlite.Value).Elem", "(internal/reflectlite.Value).Set"], unfollowed := true, recurses := true, named := ["posthorse/mark.nibbles", "errors.errorType"], apart := false, laid := [("errors.errorType", laid_errors_errorType), ("posthorse/mark.nibbles", laid_posthorse_mark_nibbles)], narrowed := true }
def MarkOpensUptoSaid : Prop := markOpensUptoRow.holds Tryd.pinned (OpenSpec.upto markOpensSpec)

/-- 'posthorselaw01.LeOuts', WHERE WHAT IT READS IS OF BULK AT MOST 1048576: true; the input reads as it did. -/
def leOutsUptoRow : OpenClaim := { program := "ytdlmgjpnlgdpkaadoor", sum := "e13ef480073ca50ba3abd6352591518ea62602df6507bf67d1bb9f9dc9b3532e", func := "posthorse/posthorselaw01.LeOuts", spec := "leOuts", inPlace := ["internal/abi.NoEscape", "internal/bytealg.MakeNoZero", "internal/reflectlite.ValueOf", "(internal/reflectlite.Value).Type", "(internal/reflectlite.Value).IsNil", "internal/reflectlite.TypeOf", "(internal/reflectlite.Value).Elem", "(internal/reflectlite.Value).Set"], unfollowed := true, recurses := true, named := ["errors.errorType"], apart := false, laid := [("errors.errorType", laid_errors_errorType)], narrowed := true }
def LeOutsUptoSaid : Prop := leOutsUptoRow.holds Tryd.pinned (OpenSpec.upto leOutsSpec)

/-- 'posthorselaw01.LeReads', WHERE WHAT IT READS IS OF BULK AT MOST 1048576: true; the input reads as it did. -/
def leReadsUptoRow : OpenClaim := { program := "ytdlmgjpnlgdpkaadoor", sum := "e13ef480073ca50ba3abd6352591518ea62602df6507bf67d1bb9f9dc9b3532e", func := "posthorse/posthorselaw01.LeReads", spec := "leReads", inPlace := ["internal/abi.NoEscape", "internal/bytealg.MakeNoZero", "internal/bytealg.IndexByteString", "internal/bytealg.IndexString", "internal/reflectlite.ValueOf", "(internal/reflectlite.Value).Type", "(internal/reflectlite.Value).IsNil", "internal/reflectlite.TypeOf", "(internal/reflectlite.Value).Elem", "(internal/reflectlite.Value).Set"], unfollowed := true, recurses := true, named := ["unicode/utf8.first", "unicode/utf8.acceptRanges", "errors.errorType", "internal/bytealg.MaxLen"], apart := false, laid := [("unicode/utf8.acceptRanges", laid_unicode_utf8_acceptRanges), ("errors.errorType", laid_errors_errorType), ("unicode/utf8.first", laid_unicode_utf8_first)], narrowed := true }
def LeReadsUptoSaid : Prop := leReadsUptoRow.holds Tryd.pinned (OpenSpec.upto leReadsSpec)

/-- 'posthorselaw01.LeNil', WHERE WHAT IT READS IS OF BULK AT MOST 1048576: true; the input reads as it did. -/
def leNilUptoRow : OpenClaim := { program := "ytdlmgjpnlgdpkaadoor", sum := "e13ef480073ca50ba3abd6352591518ea62602df6507bf67d1bb9f9dc9b3532e", func := "posthorse/posthorselaw01.LeNil", spec := "leNil", inPlace := ["internal/abi.NoEscape", "internal/bytealg.MakeNoZero", "internal/bytealg.IndexByteString", "internal/bytealg.IndexString", "internal/reflectlite.ValueOf", "(internal/reflectlite.Value).Type", "(internal/reflectlite.Value).IsNil", "internal/reflectlite.TypeOf", "(internal/reflectlite.Value).Elem", "(internal/reflectlite.Value).Set"], unfollowed := true, recurses := true, named := ["unicode/utf8.first", "unicode/utf8.acceptRanges", "errors.errorType", "internal/bytealg.MaxLen"], apart := false, laid := [("unicode/utf8.acceptRanges", laid_unicode_utf8_acceptRanges), ("errors.errorType", laid_errors_errorType), ("unicode/utf8.first", laid_unicode_utf8_first)], narrowed := true }
def LeNilUptoSaid : Prop := leNilUptoRow.holds Tryd.pinned (OpenSpec.upto leNilSpec)

end Rows
end Go.Proofs.YtdlmgjpnlgdpkaaDoor
