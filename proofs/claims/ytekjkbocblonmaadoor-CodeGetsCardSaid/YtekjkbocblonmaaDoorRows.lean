/-
  NARROWER THAN 'FOR EVERY INPUT', by the rows' own cells (each row's printed sentence says how): SuperApart: laid · CodePuts: laid · CodeGets: laid · SuperGets: laid · SuperPuts: laid.
  DERIVED. THE GIVEN ROWS OF THIS SEAT. 5 by the template 'for every input the law returns true; each argument reads behind the call as it read before'; 0 by the template 'total and deterministic' (their statements: YtekjkbocblonmaaDoorTotals.lean).
  GIVEN WITH THE SEED: the statements are not yours to turn. If you find one false, say at which input.
  Laid BY PROGRAM, IN A SANDBOX (cutbox-rows.mjs): the forced cells as the released guide's own fill.sh prints them over the translation f93fc8969894a605… (all of the seat's roots in one cut). By AI agents, Wed Nov 11 2026. No macro, syntax, notation, axiom, sorry.
-/
import Derived.Test.YtekjkbocblonmaaDoorChecked
import GoSem.PinnedTables
import GoSem.Claim
import GoSem.ClaimJoined
import GoSem.ClaimMapViews
import Derived.JoinedTies
import Derived.KernelRfl
namespace Go.Proofs.YtekjkbocblonmaaDoor
/- THE CELL 'sum', in the pinned program and in every row, IS THE sha256 OF THE DUMP (.gsa) THAT YtekjkbocblonmaaDoorProg.lean LOADS. Nothing in Lean hashes anything: it is a label: what it is worth is what the hold of that sum in a sandbox is worth. -/
noncomputable def Tryd.pinned : Pinned := { name := "ytekjkbocblonmaadoor", sum := "f93fc8969894a605f9b47a75180a930a6ecbfc618af26717b0477b8206120064", checked := Tryd.checked }
namespace Rows
def none {H : Type} : Left H := { results := [], args := [] }

/- WHAT THE LISTED PACKAGE-LEVEL VARIABLES READ AS WHEN THE CALL BEGINS. Each datum BY PROGRAM (the guide's laid-datum.mjs) off the statement by which the dump's own 'gosem.cut.vars' lays the variable. In a bare row this is a premise. The card (YtekjkbocblonmaaDoorCards.lean) ties it to the program's text. -/
def laid_posthorse_mark_nibbles {H : Type} : DataW H := .agg [.lit (.int .u32 0), .lit (.int .u32 274646895), .lit (.int .u32 549293790), .lit (.int .u32 820201905), .lit (.int .u32 1098587580), .lit (.int .u32 1361435347), .lit (.int .u32 1640403810), .lit (.int .u32 1905808397), .lit (.int .u32 2197175160), .lit (.int .u32 2460548119), .lit (.int .u32 2722870694), .lit (.int .u32 2987750089), .lit (.int .u32 3280807620), .lit (.int .u32 3553878443), .lit (.int .u32 3811616794), .lit (.int .u32 4084100981)]
def laid_errors_errorType {H : Type} : DataW H := .iface "internal/reflectlite.rtype" (.agg [.ptr (.lit (.string [101, 114, 114, 111, 114]))])
def laid_unicode_utf8_acceptRanges {H : Type} : DataW H := .agg [.agg [.lit (.int .u8 128), .lit (.int .u8 191)], .agg [.lit (.int .u8 160), .lit (.int .u8 191)], .agg [.lit (.int .u8 128), .lit (.int .u8 159)], .agg [.lit (.int .u8 144), .lit (.int .u8 191)], .agg [.lit (.int .u8 128), .lit (.int .u8 143)], .agg [.lit (.int .u8 0), .lit (.int .u8 0)], .agg [.lit (.int .u8 0), .lit (.int .u8 0)], .agg [.lit (.int .u8 0), .lit (.int .u8 0)], .agg [.lit (.int .u8 0), .lit (.int .u8 0)], .agg [.lit (.int .u8 0), .lit (.int .u8 0)], .agg [.lit (.int .u8 0), .lit (.int .u8 0)], .agg [.lit (.int .u8 0), .lit (.int .u8 0)], .agg [.lit (.int .u8 0), .lit (.int .u8 0)], .agg [.lit (.int .u8 0), .lit (.int .u8 0)], .agg [.lit (.int .u8 0), .lit (.int .u8 0)], .agg [.lit (.int .u8 0), .lit (.int .u8 0)]]
/-- One of Go's own tables, pinned by name: the form's constant. -/
def laid_unicode_utf8_first : DataW Unit := Go.Pinned.utf8First

/-- 'posthorselaw09.SuperApart': WHATEVER THE INPUT: true; the input reads as it did. -/
def superApartSpec : ChangeSpec := { name := "superApart", fn := fun _ => fun
  | [d1, d2] => { results := [.lit (.bool true)], args := [d1, d2] }
  | _ => none }
def superApartRow : OpenClaim := { program := "ytekjkbocblonmaadoor", sum := "f93fc8969894a605f9b47a75180a930a6ecbfc618af26717b0477b8206120064", func := "posthorse/posthorselaw09.SuperApart", spec := "superApart", inPlace := ["internal/abi.NoEscape", "internal/bytealg.MakeNoZero"], named := ["posthorse/mark.nibbles"], apart := false, laid := [("posthorse/mark.nibbles", laid_posthorse_mark_nibbles)] }
def SuperApartSaid : Prop := superApartRow.holds Tryd.pinned (OpenSpec.ofChange superApartSpec)

/-- ITS FALSE NEIGHBOUR: 'it returns false'. Refute it at one input. -/
def superApartWrong : ChangeSpec := { name := "superApart", fn := fun _ => fun
  | [d1, d2] => { results := [.lit (.bool false)], args := [d1, d2] }
  | _ => none }
def SuperApartWrongFalsely : Prop := superApartRow.holds Tryd.pinned (OpenSpec.ofChange superApartWrong)

/-- 'posthorselaw17.CodePuts': WHATEVER THE INPUT: true; the input reads as it did. -/
def codePutsSpec : ChangeSpec := { name := "codePuts", fn := fun _ => fun
  | [d] => { results := [.lit (.bool true)], args := [d] }
  | _ => none }
def codePutsRow : OpenClaim := { program := "ytekjkbocblonmaadoor", sum := "f93fc8969894a605f9b47a75180a930a6ecbfc618af26717b0477b8206120064", func := "posthorse/posthorselaw17.CodePuts", spec := "codePuts", inPlace := ["internal/abi.NoEscape", "internal/reflectlite.ValueOf", "(internal/reflectlite.Value).Type", "(internal/reflectlite.Value).IsNil", "internal/reflectlite.TypeOf", "(internal/reflectlite.Value).Elem", "(internal/reflectlite.Value).Set"], unfollowed := true, recurses := true, named := ["errors.errorType"], apart := false, laid := [("errors.errorType", laid_errors_errorType)] }
def CodePutsSaid : Prop := codePutsRow.holds Tryd.pinned (OpenSpec.ofChange codePutsSpec)

/-- ITS FALSE NEIGHBOUR: 'it returns false'. Refute it at one input. -/
def codePutsWrong : ChangeSpec := { name := "codePuts", fn := fun _ => fun
  | [d] => { results := [.lit (.bool false)], args := [d] }
  | _ => none }
def CodePutsWrongFalsely : Prop := codePutsRow.holds Tryd.pinned (OpenSpec.ofChange codePutsWrong)

/-- 'posthorselaw17.CodeGets': WHATEVER THE INPUT: true; the input reads as it did. -/
def codeGetsSpec : ChangeSpec := { name := "codeGets", fn := fun _ => fun
  | [d] => { results := [.lit (.bool true)], args := [d] }
  | _ => none }
def codeGetsRow : OpenClaim := { program := "ytekjkbocblonmaadoor", sum := "f93fc8969894a605f9b47a75180a930a6ecbfc618af26717b0477b8206120064", func := "posthorse/posthorselaw17.CodeGets", spec := "codeGets", inPlace := ["internal/abi.NoEscape", "internal/reflectlite.ValueOf", "(internal/reflectlite.Value).Type", "(internal/reflectlite.Value).IsNil", "internal/reflectlite.TypeOf", "(internal/reflectlite.Value).Elem", "(internal/reflectlite.Value).Set"], unfollowed := true, recurses := true, named := ["errors.errorType"], apart := false, laid := [("errors.errorType", laid_errors_errorType)] }
def CodeGetsSaid : Prop := codeGetsRow.holds Tryd.pinned (OpenSpec.ofChange codeGetsSpec)

/-- ITS FALSE NEIGHBOUR: 'it returns false'. Refute it at one input. -/
def codeGetsWrong : ChangeSpec := { name := "codeGets", fn := fun _ => fun
  | [d] => { results := [.lit (.bool false)], args := [d] }
  | _ => none }
def CodeGetsWrongFalsely : Prop := codeGetsRow.holds Tryd.pinned (OpenSpec.ofChange codeGetsWrong)

/-- 'posthorselaw09.SuperGets': WHATEVER THE INPUT: true; the input reads as it did. -/
def superGetsSpec : ChangeSpec := { name := "superGets", fn := fun _ => fun
  | [d] => { results := [.lit (.bool true)], args := [d] }
  | _ => none }
def superGetsRow : OpenClaim := { program := "ytekjkbocblonmaadoor", sum := "f93fc8969894a605f9b47a75180a930a6ecbfc618af26717b0477b8206120064", func := "posthorse/posthorselaw09.SuperGets", spec := "superGets", inPlace := ["internal/bytealg.IndexByteString", "internal/bytealg.IndexString", "internal/reflectlite.ValueOf", "(internal/reflectlite.Value).Type", "(internal/reflectlite.Value).IsNil", "internal/reflectlite.TypeOf", "(internal/reflectlite.Value).Elem", "(internal/reflectlite.Value).Set"], unfollowed := true, recurses := true, named := ["posthorse/mark.nibbles", "unicode/utf8.first", "unicode/utf8.acceptRanges", "errors.errorType", "internal/bytealg.MaxLen"], apart := false, laid := [("unicode/utf8.acceptRanges", laid_unicode_utf8_acceptRanges), ("errors.errorType", laid_errors_errorType), ("posthorse/mark.nibbles", laid_posthorse_mark_nibbles), ("unicode/utf8.first", laid_unicode_utf8_first)] }
def SuperGetsSaid : Prop := superGetsRow.holds Tryd.pinned (OpenSpec.ofChange superGetsSpec)

/-- ITS FALSE NEIGHBOUR: 'it returns false'. Refute it at one input. -/
def superGetsWrong : ChangeSpec := { name := "superGets", fn := fun _ => fun
  | [d] => { results := [.lit (.bool false)], args := [d] }
  | _ => none }
def SuperGetsWrongFalsely : Prop := superGetsRow.holds Tryd.pinned (OpenSpec.ofChange superGetsWrong)

/-- 'posthorselaw09.SuperPuts': WHATEVER THE INPUT: true; the input reads as it did. -/
def superPutsSpec : ChangeSpec := { name := "superPuts", fn := fun _ => fun
  | [d1, d2] => { results := [.lit (.bool true)], args := [d1, d2] }
  | _ => none }
def superPutsRow : OpenClaim := { program := "ytekjkbocblonmaadoor", sum := "f93fc8969894a605f9b47a75180a930a6ecbfc618af26717b0477b8206120064", func := "posthorse/posthorselaw09.SuperPuts", spec := "superPuts", inPlace := ["internal/abi.NoEscape", "internal/bytealg.MakeNoZero", "internal/reflectlite.ValueOf", "(internal/reflectlite.Value).Type", "(internal/reflectlite.Value).IsNil", "internal/reflectlite.TypeOf", "(internal/reflectlite.Value).Elem", "(internal/reflectlite.Value).Set", "internal/bytealg.IndexByteString", "internal/bytealg.IndexString"], unfollowed := true, recurses := true, named := ["posthorse/mark.nibbles", "errors.errorType", "unicode/utf8.first", "unicode/utf8.acceptRanges", "internal/bytealg.MaxLen"], apart := false, laid := [("unicode/utf8.acceptRanges", laid_unicode_utf8_acceptRanges), ("errors.errorType", laid_errors_errorType), ("posthorse/mark.nibbles", laid_posthorse_mark_nibbles), ("unicode/utf8.first", laid_unicode_utf8_first)] }
def SuperPutsSaid : Prop := superPutsRow.holds Tryd.pinned (OpenSpec.ofChange superPutsSpec)

/-- ITS FALSE NEIGHBOUR: 'it returns false'. Refute it at one input. -/
def superPutsWrong : ChangeSpec := { name := "superPuts", fn := fun _ => fun
  | [d1, d2] => { results := [.lit (.bool false)], args := [d1, d2] }
  | _ => none }
def SuperPutsWrongFalsely : Prop := superPutsRow.holds Tryd.pinned (OpenSpec.ofChange superPutsWrong)

/- THE SECOND FORM. 'bulk': how many values and letters a reading holds, each counted each time it is reached (what is shared counts as often as it is met; a slice's spare places count too). A statement '..UptoSaid' is the law's where the arguments, and the package variables that the reading takes, are together of bulk at most 1048576: NARROWER than '..Said'. Prove '..Said' where nothing that the law and all that it calls make is longer than what came in: it says more and counts as full. Else prove '..UptoSaid'. A law counts once. -/
mutual
def uptoBulk {H : Type} : DataW H → Nat
  | .lit (.string bytes) => bytes.length + 1
  | .lit _ => 1
  | .nil => 1
  | .ptr d => uptoBulk d + 1
  | .slice elems spare => uptoBulkAll elems + uptoBulkAll spare + 1
  | .agg parts => uptoBulkAll parts + 1
  | .iface _ d => uptoBulk d + 1
  | .map entries => uptoBulkEntries entries + 1
  | .held _ => 1
def uptoBulkAll {H : Type} : List (DataW H) → Nat
  | [] => 0
  | d :: r => uptoBulk d + uptoBulkAll r
def uptoBulkEntries {H : Type} : List (Lit × DataW H) → Nat
  | [] => 0
  | x :: r => uptoBulkEntry x + uptoBulkEntries r
def uptoBulkEntry {H : Type} : Lit × DataW H → Nat
  | (.string bytes, d) => bytes.length + uptoBulk d + 1
  | (_, d) => uptoBulk d + 1
 end
def uptoSmall : (H : Type) → List (DataW H) → Bool := fun _ ds => decide (uptoBulkAll ds ≤ 1048576)
def OpenSpec.upto (s : _root_.Go.ChangeSpec) : _root_.Go.OpenSpec := { _root_.Go.OpenSpec.ofChange s with cond := some uptoSmall }

/-- 'posthorselaw09.SuperApart', WHERE WHAT IT READS IS OF BULK AT MOST 1048576: true; the input reads as it did. -/
def superApartUptoRow : OpenClaim := { program := "ytekjkbocblonmaadoor", sum := "f93fc8969894a605f9b47a75180a930a6ecbfc618af26717b0477b8206120064", func := "posthorse/posthorselaw09.SuperApart", spec := "superApart", inPlace := ["internal/abi.NoEscape", "internal/bytealg.MakeNoZero"], named := ["posthorse/mark.nibbles"], apart := false, laid := [("posthorse/mark.nibbles", laid_posthorse_mark_nibbles)], narrowed := true }
def SuperApartUptoSaid : Prop := superApartUptoRow.holds Tryd.pinned (OpenSpec.upto superApartSpec)

/-- 'posthorselaw17.CodePuts', WHERE WHAT IT READS IS OF BULK AT MOST 1048576: true; the input reads as it did. -/
def codePutsUptoRow : OpenClaim := { program := "ytekjkbocblonmaadoor", sum := "f93fc8969894a605f9b47a75180a930a6ecbfc618af26717b0477b8206120064", func := "posthorse/posthorselaw17.CodePuts", spec := "codePuts", inPlace := ["internal/abi.NoEscape", "internal/reflectlite.ValueOf", "(internal/reflectlite.Value).Type", "(internal/reflectlite.Value).IsNil", "internal/reflectlite.TypeOf", "(internal/reflectlite.Value).Elem", "(internal/reflectlite.Value).Set"], unfollowed := true, recurses := true, named := ["errors.errorType"], apart := false, laid := [("errors.errorType", laid_errors_errorType)], narrowed := true }
def CodePutsUptoSaid : Prop := codePutsUptoRow.holds Tryd.pinned (OpenSpec.upto codePutsSpec)

/-- 'posthorselaw17.CodeGets', WHERE WHAT IT READS IS OF BULK AT MOST 1048576: true; the input reads as it did. -/
def codeGetsUptoRow : OpenClaim := { program := "ytekjkbocblonmaadoor", sum := "f93fc8969894a605f9b47a75180a930a6ecbfc618af26717b0477b8206120064", func := "posthorse/posthorselaw17.CodeGets", spec := "codeGets", inPlace := ["internal/abi.NoEscape", "internal/reflectlite.ValueOf", "(internal/reflectlite.Value).Type", "(internal/reflectlite.Value).IsNil", "internal/reflectlite.TypeOf", "(internal/reflectlite.Value).Elem", "(internal/reflectlite.Value).Set"], unfollowed := true, recurses := true, named := ["errors.errorType"], apart := false, laid := [("errors.errorType", laid_errors_errorType)], narrowed := true }
def CodeGetsUptoSaid : Prop := codeGetsUptoRow.holds Tryd.pinned (OpenSpec.upto codeGetsSpec)

/-- 'posthorselaw09.SuperGets', WHERE WHAT IT READS IS OF BULK AT MOST 1048576: true; the input reads as it did. -/
def superGetsUptoRow : OpenClaim := { program := "ytekjkbocblonmaadoor", sum := "f93fc8969894a605f9b47a75180a930a6ecbfc618af26717b0477b8206120064", func := "posthorse/posthorselaw09.SuperGets", spec := "superGets", inPlace := ["internal/bytealg.IndexByteString", "internal/bytealg.IndexString", "internal/reflectlite.ValueOf", "(internal/reflectlite.Value).Type", "(internal/reflectlite.Value).IsNil", "internal/reflectlite.TypeOf", "(internal/reflectlite.Value).Elem", "(internal/reflectlite.Value).Set"], unfollowed := true, recurses := true, named := ["posthorse/mark.nibbles", "unicode/utf8.first", "unicode/utf8.acceptRanges", "errors.errorType", "internal/bytealg.MaxLen"], apart := false, laid := [("unicode/utf8.acceptRanges", laid_unicode_utf8_acceptRanges), ("errors.errorType", laid_errors_errorType), ("posthorse/mark.nibbles", laid_posthorse_mark_nibbles), ("unicode/utf8.first", laid_unicode_utf8_first)], narrowed := true }
def SuperGetsUptoSaid : Prop := superGetsUptoRow.holds Tryd.pinned (OpenSpec.upto superGetsSpec)

/-- 'posthorselaw09.SuperPuts', WHERE WHAT IT READS IS OF BULK AT MOST 1048576: true; the input reads as it did. -/
def superPutsUptoRow : OpenClaim := { program := "ytekjkbocblonmaadoor", sum := "f93fc8969894a605f9b47a75180a930a6ecbfc618af26717b0477b8206120064", func := "posthorse/posthorselaw09.SuperPuts", spec := "superPuts", inPlace := ["internal/abi.NoEscape", "internal/bytealg.MakeNoZero", "internal/reflectlite.ValueOf", "(internal/reflectlite.Value).Type", "(internal/reflectlite.Value).IsNil", "internal/reflectlite.TypeOf", "(internal/reflectlite.Value).Elem", "(internal/reflectlite.Value).Set", "internal/bytealg.IndexByteString", "internal/bytealg.IndexString"], unfollowed := true, recurses := true, named := ["posthorse/mark.nibbles", "errors.errorType", "unicode/utf8.first", "unicode/utf8.acceptRanges", "internal/bytealg.MaxLen"], apart := false, laid := [("unicode/utf8.acceptRanges", laid_unicode_utf8_acceptRanges), ("errors.errorType", laid_errors_errorType), ("posthorse/mark.nibbles", laid_posthorse_mark_nibbles), ("unicode/utf8.first", laid_unicode_utf8_first)], narrowed := true }
def SuperPutsUptoSaid : Prop := superPutsUptoRow.holds Tryd.pinned (OpenSpec.upto superPutsSpec)

end Rows
end Go.Proofs.YtekjkbocblonmaaDoor
