/-
  NARROWER THAN 'FOR EVERY INPUT', by the rows' own cells (each row's printed sentence says how): FaultIs: laid · FaultTexts: laid · FaultJoins: laid · FaultNil: laid · FaultFinds: laid · PageApart: laid · PageChanges: laid.
  DERIVED. THE GIVEN ROWS OF THIS SEAT. 7 by the template 'for every input the law returns true; each argument reads behind the call as it read before'; 0 by the template 'total and deterministic' (their statements: YtegcaniikdibdaaDoorTotals.lean).
  GIVEN WITH THE SEED: the statements are not yours to turn. If you find one false, say at which input.
  Laid BY PROGRAM, IN A SANDBOX (cutbox-rows.mjs): the forced cells as the released guide's own fill.sh prints them over the translation 440396514ce3d503… (all of the seat's roots in one cut). By AI agents, Wed Nov 11 2026. No macro, syntax, notation, axiom, sorry.
-/
import Derived.Test.YtegcaniikdibdaaDoorChecked
import GoSem.PinnedTables
import GoSem.Claim
import GoSem.ClaimJoined
import GoSem.ClaimMapViews
import Derived.JoinedTies
import Derived.KernelRfl
namespace Go.Proofs.YtegcaniikdibdaaDoor
/- THE CELL 'sum', in the pinned program and in every row, IS THE sha256 OF THE DUMP (.gsa) THAT YtegcaniikdibdaaDoorProg.lean LOADS. Nothing in Lean hashes anything: it is a label: what it is worth is what the hold of that sum in a sandbox is worth. -/
noncomputable def Tryd.pinned : Pinned := { name := "ytegcaniikdibdaadoor", sum := "440396514ce3d503c58378efcc06b4700ded1a1eba5df4f10524e774f8b9a4bf", checked := Tryd.checked }
namespace Rows
def none {H : Type} : Left H := { results := [], args := [] }

/- WHAT THE LISTED PACKAGE-LEVEL VARIABLES READ AS WHEN THE CALL BEGINS. Each datum BY PROGRAM (the guide's laid-datum.mjs) off the statement by which the dump's own 'gosem.cut.vars' lays the variable. In a bare row this is a premise. The card (YtegcaniikdibdaaDoorCards.lean) ties it to the program's text. -/
def laid_math_bits_deBruijn32tab {H : Type} : DataW H := .agg [.lit (.int .u8 0), .lit (.int .u8 1), .lit (.int .u8 28), .lit (.int .u8 2), .lit (.int .u8 29), .lit (.int .u8 14), .lit (.int .u8 24), .lit (.int .u8 3), .lit (.int .u8 30), .lit (.int .u8 22), .lit (.int .u8 20), .lit (.int .u8 15), .lit (.int .u8 25), .lit (.int .u8 17), .lit (.int .u8 4), .lit (.int .u8 8), .lit (.int .u8 31), .lit (.int .u8 27), .lit (.int .u8 13), .lit (.int .u8 23), .lit (.int .u8 21), .lit (.int .u8 19), .lit (.int .u8 16), .lit (.int .u8 7), .lit (.int .u8 26), .lit (.int .u8 12), .lit (.int .u8 18), .lit (.int .u8 6), .lit (.int .u8 11), .lit (.int .u8 5), .lit (.int .u8 10), .lit (.int .u8 9)]
def laid_math_bits_deBruijn64tab {H : Type} : DataW H := .agg [.lit (.int .u8 0), .lit (.int .u8 1), .lit (.int .u8 56), .lit (.int .u8 2), .lit (.int .u8 57), .lit (.int .u8 49), .lit (.int .u8 28), .lit (.int .u8 3), .lit (.int .u8 61), .lit (.int .u8 58), .lit (.int .u8 42), .lit (.int .u8 50), .lit (.int .u8 38), .lit (.int .u8 29), .lit (.int .u8 17), .lit (.int .u8 4), .lit (.int .u8 62), .lit (.int .u8 47), .lit (.int .u8 59), .lit (.int .u8 36), .lit (.int .u8 45), .lit (.int .u8 43), .lit (.int .u8 51), .lit (.int .u8 22), .lit (.int .u8 53), .lit (.int .u8 39), .lit (.int .u8 33), .lit (.int .u8 30), .lit (.int .u8 24), .lit (.int .u8 18), .lit (.int .u8 12), .lit (.int .u8 5), .lit (.int .u8 63), .lit (.int .u8 55), .lit (.int .u8 48), .lit (.int .u8 27), .lit (.int .u8 60), .lit (.int .u8 41), .lit (.int .u8 37), .lit (.int .u8 16), .lit (.int .u8 46), .lit (.int .u8 35), .lit (.int .u8 44), .lit (.int .u8 21), .lit (.int .u8 52), .lit (.int .u8 32), .lit (.int .u8 23), .lit (.int .u8 11), .lit (.int .u8 54), .lit (.int .u8 26), .lit (.int .u8 40), .lit (.int .u8 15), .lit (.int .u8 34), .lit (.int .u8 20), .lit (.int .u8 31), .lit (.int .u8 10), .lit (.int .u8 25), .lit (.int .u8 14), .lit (.int .u8 19), .lit (.int .u8 9), .lit (.int .u8 13), .lit (.int .u8 8), .lit (.int .u8 7), .lit (.int .u8 6)]
def laid_internal_strconv_uint64pow10 {H : Type} : DataW H := .agg [.lit (.int .u64 1), .lit (.int .u64 10), .lit (.int .u64 100), .lit (.int .u64 1000), .lit (.int .u64 10000), .lit (.int .u64 100000), .lit (.int .u64 1000000), .lit (.int .u64 10000000), .lit (.int .u64 100000000), .lit (.int .u64 1000000000), .lit (.int .u64 10000000000), .lit (.int .u64 100000000000), .lit (.int .u64 1000000000000), .lit (.int .u64 10000000000000), .lit (.int .u64 100000000000000), .lit (.int .u64 1000000000000000), .lit (.int .u64 10000000000000000), .lit (.int .u64 100000000000000000), .lit (.int .u64 1000000000000000000), .lit (.int .u64 10000000000000000000)]
def laid_posthorse_api_words {H : Type} : DataW H := .agg [.lit (.string []), .lit (.string [97, 114, 103, 117, 109, 101, 110, 116]), .lit (.string [113, 117, 101, 117, 101]), .lit (.string [112, 111, 119, 101, 114]), .lit (.string [102, 111, 114, 109]), .lit (.string [115, 117, 109]), .lit (.string [115, 112, 97, 99, 101]), .lit (.string [106, 111, 117, 114, 110, 97, 108]), .lit (.string [110, 111, 110, 101]), .lit (.string [101, 120, 105, 115, 116, 115]), .lit (.string [108, 111, 110, 103]), .lit (.string [114, 101, 106, 101, 99, 116]), .lit (.string [102, 117, 101, 108]), .lit (.string [98, 111, 117, 110, 100]), .lit (.string [115, 116, 97, 108, 101]), .lit (.string [97, 98, 111, 114, 116]), .lit (.string [115, 116, 97, 116, 101]), .lit (.string [99, 111, 114, 114, 117, 112, 116]), .lit (.string [98, 117, 115, 121]), .lit (.string [101, 120, 116, 101, 110, 116, 115])]
def laid_errors_errorType {H : Type} : DataW H := .iface "internal/reflectlite.rtype" (.agg [.ptr (.lit (.string [101, 114, 114, 111, 114]))])
def laid_unicode_utf8_acceptRanges {H : Type} : DataW H := .agg [.agg [.lit (.int .u8 128), .lit (.int .u8 191)], .agg [.lit (.int .u8 160), .lit (.int .u8 191)], .agg [.lit (.int .u8 128), .lit (.int .u8 159)], .agg [.lit (.int .u8 144), .lit (.int .u8 191)], .agg [.lit (.int .u8 128), .lit (.int .u8 143)], .agg [.lit (.int .u8 0), .lit (.int .u8 0)], .agg [.lit (.int .u8 0), .lit (.int .u8 0)], .agg [.lit (.int .u8 0), .lit (.int .u8 0)], .agg [.lit (.int .u8 0), .lit (.int .u8 0)], .agg [.lit (.int .u8 0), .lit (.int .u8 0)], .agg [.lit (.int .u8 0), .lit (.int .u8 0)], .agg [.lit (.int .u8 0), .lit (.int .u8 0)], .agg [.lit (.int .u8 0), .lit (.int .u8 0)], .agg [.lit (.int .u8 0), .lit (.int .u8 0)], .agg [.lit (.int .u8 0), .lit (.int .u8 0)], .agg [.lit (.int .u8 0), .lit (.int .u8 0)]]
def laid_posthorse_mark_nibbles {H : Type} : DataW H := .agg [.lit (.int .u32 0), .lit (.int .u32 274646895), .lit (.int .u32 549293790), .lit (.int .u32 820201905), .lit (.int .u32 1098587580), .lit (.int .u32 1361435347), .lit (.int .u32 1640403810), .lit (.int .u32 1905808397), .lit (.int .u32 2197175160), .lit (.int .u32 2460548119), .lit (.int .u32 2722870694), .lit (.int .u32 2987750089), .lit (.int .u32 3280807620), .lit (.int .u32 3553878443), .lit (.int .u32 3811616794), .lit (.int .u32 4084100981)]
/-- One of Go's own tables, pinned by name: the form's constant. -/
def laid_unicode_utf8_first : DataW Unit := Go.Pinned.utf8First

/-- 'posthorselaw02.FaultIs': WHATEVER THE INPUT: true; the input reads as it did. -/
def faultIsSpec : ChangeSpec := { name := "faultIs", fn := fun _ => fun
  | [d1, d2, d3] => { results := [.lit (.bool true)], args := [d1, d2, d3] }
  | _ => none }
def faultIsRow : OpenClaim := { program := "ytegcaniikdibdaadoor", sum := "440396514ce3d503c58378efcc06b4700ded1a1eba5df4f10524e774f8b9a4bf", func := "posthorse/posthorselaw02.FaultIs", spec := "faultIs", inPlace := ["internal/abi.NoEscape", "internal/bytealg.MakeNoZero", "internal/reflectlite.TypeOf", "internal/reflectlite.ValueOf", "(internal/reflectlite.Value).Type", "(internal/reflectlite.Value).IsNil", "(internal/reflectlite.Value).Elem", "(internal/reflectlite.Value).Set"], unfollowed := true, recurses := true, named := ["internal/strconv.uint64pow10", "math/bits.deBruijn32tab", "math/bits.deBruijn64tab", "posthorse/api.words", "errors.errorType"], apart := false, laid := [("math/bits.deBruijn32tab", laid_math_bits_deBruijn32tab), ("math/bits.deBruijn64tab", laid_math_bits_deBruijn64tab), ("internal/strconv.uint64pow10", laid_internal_strconv_uint64pow10), ("posthorse/api.words", laid_posthorse_api_words), ("errors.errorType", laid_errors_errorType)] }
def FaultIsSaid : Prop := faultIsRow.holds Tryd.pinned (OpenSpec.ofChange faultIsSpec)

/-- ITS FALSE NEIGHBOUR: 'it returns false'. Refute it at one input. -/
def faultIsWrong : ChangeSpec := { name := "faultIs", fn := fun _ => fun
  | [d1, d2, d3] => { results := [.lit (.bool false)], args := [d1, d2, d3] }
  | _ => none }
def FaultIsWrongFalsely : Prop := faultIsRow.holds Tryd.pinned (OpenSpec.ofChange faultIsWrong)

/-- 'posthorselaw02.FaultTexts': WHATEVER THE INPUT: true; the input reads as it did. -/
def faultTextsSpec : ChangeSpec := { name := "faultTexts", fn := fun _ => fun
  | [d1, d2] => { results := [.lit (.bool true)], args := [d1, d2] }
  | _ => none }
def faultTextsRow : OpenClaim := { program := "ytegcaniikdibdaadoor", sum := "440396514ce3d503c58378efcc06b4700ded1a1eba5df4f10524e774f8b9a4bf", func := "posthorse/posthorselaw02.FaultTexts", spec := "faultTexts", inPlace := ["internal/abi.NoEscape", "internal/bytealg.MakeNoZero", "internal/reflectlite.TypeOf", "internal/reflectlite.ValueOf", "(internal/reflectlite.Value).Type", "(internal/reflectlite.Value).IsNil", "(internal/reflectlite.Value).Elem", "(internal/reflectlite.Value).Set"], unfollowed := true, recurses := true, named := ["internal/strconv.uint64pow10", "math/bits.deBruijn32tab", "math/bits.deBruijn64tab", "posthorse/api.words", "errors.errorType"], apart := false, laid := [("math/bits.deBruijn32tab", laid_math_bits_deBruijn32tab), ("math/bits.deBruijn64tab", laid_math_bits_deBruijn64tab), ("internal/strconv.uint64pow10", laid_internal_strconv_uint64pow10), ("posthorse/api.words", laid_posthorse_api_words), ("errors.errorType", laid_errors_errorType)] }
def FaultTextsSaid : Prop := faultTextsRow.holds Tryd.pinned (OpenSpec.ofChange faultTextsSpec)

/-- ITS FALSE NEIGHBOUR: 'it returns false'. Refute it at one input. -/
def faultTextsWrong : ChangeSpec := { name := "faultTexts", fn := fun _ => fun
  | [d1, d2] => { results := [.lit (.bool false)], args := [d1, d2] }
  | _ => none }
def FaultTextsWrongFalsely : Prop := faultTextsRow.holds Tryd.pinned (OpenSpec.ofChange faultTextsWrong)

/-- 'posthorselaw02.FaultJoins': WHATEVER THE INPUT: true; the input reads as it did. -/
def faultJoinsSpec : ChangeSpec := { name := "faultJoins", fn := fun _ => fun
  | [d] => { results := [.lit (.bool true)], args := [d] }
  | _ => none }
def faultJoinsRow : OpenClaim := { program := "ytegcaniikdibdaadoor", sum := "440396514ce3d503c58378efcc06b4700ded1a1eba5df4f10524e774f8b9a4bf", func := "posthorse/posthorselaw02.FaultJoins", spec := "faultJoins", inPlace := ["internal/abi.NoEscape", "internal/bytealg.MakeNoZero", "internal/reflectlite.TypeOf", "internal/reflectlite.ValueOf", "(internal/reflectlite.Value).Type", "(internal/reflectlite.Value).IsNil", "(internal/reflectlite.Value).Elem", "(internal/reflectlite.Value).Set"], unfollowed := true, recurses := true, named := ["internal/strconv.uint64pow10", "math/bits.deBruijn32tab", "math/bits.deBruijn64tab", "posthorse/api.words", "errors.errorType"], apart := false, laid := [("math/bits.deBruijn32tab", laid_math_bits_deBruijn32tab), ("math/bits.deBruijn64tab", laid_math_bits_deBruijn64tab), ("internal/strconv.uint64pow10", laid_internal_strconv_uint64pow10), ("posthorse/api.words", laid_posthorse_api_words), ("errors.errorType", laid_errors_errorType)] }
def FaultJoinsSaid : Prop := faultJoinsRow.holds Tryd.pinned (OpenSpec.ofChange faultJoinsSpec)

/-- ITS FALSE NEIGHBOUR: 'it returns false'. Refute it at one input. -/
def faultJoinsWrong : ChangeSpec := { name := "faultJoins", fn := fun _ => fun
  | [d] => { results := [.lit (.bool false)], args := [d] }
  | _ => none }
def FaultJoinsWrongFalsely : Prop := faultJoinsRow.holds Tryd.pinned (OpenSpec.ofChange faultJoinsWrong)

/-- 'posthorselaw02.FaultNil': WHATEVER THE INPUT: true; the input reads as it did. -/
def faultNilSpec : ChangeSpec := { name := "faultNil", fn := fun _ => fun
  | [d1, d2] => { results := [.lit (.bool true)], args := [d1, d2] }
  | _ => none }
def faultNilRow : OpenClaim := { program := "ytegcaniikdibdaadoor", sum := "440396514ce3d503c58378efcc06b4700ded1a1eba5df4f10524e774f8b9a4bf", func := "posthorse/posthorselaw02.FaultNil", spec := "faultNil", inPlace := ["internal/abi.NoEscape", "internal/bytealg.MakeNoZero", "internal/reflectlite.TypeOf", "internal/reflectlite.ValueOf", "(internal/reflectlite.Value).Type", "(internal/reflectlite.Value).IsNil", "(internal/reflectlite.Value).Elem", "(internal/reflectlite.Value).Set"], unfollowed := true, recurses := true, named := ["internal/strconv.uint64pow10", "math/bits.deBruijn32tab", "math/bits.deBruijn64tab", "posthorse/api.words", "errors.errorType"], apart := false, laid := [("math/bits.deBruijn32tab", laid_math_bits_deBruijn32tab), ("math/bits.deBruijn64tab", laid_math_bits_deBruijn64tab), ("internal/strconv.uint64pow10", laid_internal_strconv_uint64pow10), ("posthorse/api.words", laid_posthorse_api_words), ("errors.errorType", laid_errors_errorType)] }
def FaultNilSaid : Prop := faultNilRow.holds Tryd.pinned (OpenSpec.ofChange faultNilSpec)

/-- ITS FALSE NEIGHBOUR: 'it returns false'. Refute it at one input. -/
def faultNilWrong : ChangeSpec := { name := "faultNil", fn := fun _ => fun
  | [d1, d2] => { results := [.lit (.bool false)], args := [d1, d2] }
  | _ => none }
def FaultNilWrongFalsely : Prop := faultNilRow.holds Tryd.pinned (OpenSpec.ofChange faultNilWrong)

/-- 'posthorselaw02.FaultFinds': WHATEVER THE INPUT: true; the input reads as it did. -/
def faultFindsSpec : ChangeSpec := { name := "faultFinds", fn := fun _ => fun
  | [d1, d2] => { results := [.lit (.bool true)], args := [d1, d2] }
  | _ => none }
def faultFindsRow : OpenClaim := { program := "ytegcaniikdibdaadoor", sum := "440396514ce3d503c58378efcc06b4700ded1a1eba5df4f10524e774f8b9a4bf", func := "posthorse/posthorselaw02.FaultFinds", spec := "faultFinds", inPlace := ["internal/abi.NoEscape", "internal/bytealg.MakeNoZero", "internal/reflectlite.TypeOf", "internal/reflectlite.ValueOf", "(internal/reflectlite.Value).Type", "(internal/reflectlite.Value).IsNil", "(internal/reflectlite.Value).Elem", "(internal/reflectlite.Value).Set"], unfollowed := true, recurses := true, named := ["internal/strconv.uint64pow10", "math/bits.deBruijn32tab", "math/bits.deBruijn64tab", "posthorse/api.words", "errors.errorType"], apart := false, laid := [("math/bits.deBruijn32tab", laid_math_bits_deBruijn32tab), ("math/bits.deBruijn64tab", laid_math_bits_deBruijn64tab), ("internal/strconv.uint64pow10", laid_internal_strconv_uint64pow10), ("posthorse/api.words", laid_posthorse_api_words), ("errors.errorType", laid_errors_errorType)] }
def FaultFindsSaid : Prop := faultFindsRow.holds Tryd.pinned (OpenSpec.ofChange faultFindsSpec)

/-- ITS FALSE NEIGHBOUR: 'it returns false'. Refute it at one input. -/
def faultFindsWrong : ChangeSpec := { name := "faultFinds", fn := fun _ => fun
  | [d1, d2] => { results := [.lit (.bool false)], args := [d1, d2] }
  | _ => none }
def FaultFindsWrongFalsely : Prop := faultFindsRow.holds Tryd.pinned (OpenSpec.ofChange faultFindsWrong)

/-- 'posthorselaw11.PageApart': WHATEVER THE INPUT: true; the input reads as it did. -/
def pageApartSpec : ChangeSpec := { name := "pageApart", fn := fun _ => fun
  | [d1, d2] => { results := [.lit (.bool true)], args := [d1, d2] }
  | _ => none }
def pageApartRow : OpenClaim := { program := "ytegcaniikdibdaadoor", sum := "440396514ce3d503c58378efcc06b4700ded1a1eba5df4f10524e774f8b9a4bf", func := "posthorse/posthorselaw11.PageApart", spec := "pageApart", inPlace := ["slices.overlaps[string]", "internal/abi.NoEscape", "internal/bytealg.MakeNoZero", "internal/bytealg.IndexByteString", "internal/bytealg.IndexString"], unfollowed := true, recurses := true, named := ["posthorse/mark.nibbles", "unicode/utf8.first", "unicode/utf8.acceptRanges", "internal/bytealg.MaxLen"], apart := false, laid := [("unicode/utf8.acceptRanges", laid_unicode_utf8_acceptRanges), ("posthorse/mark.nibbles", laid_posthorse_mark_nibbles), ("unicode/utf8.first", laid_unicode_utf8_first)] }
def PageApartSaid : Prop := pageApartRow.holds Tryd.pinned (OpenSpec.ofChange pageApartSpec)

/-- ITS FALSE NEIGHBOUR: 'it returns false'. Refute it at one input. -/
def pageApartWrong : ChangeSpec := { name := "pageApart", fn := fun _ => fun
  | [d1, d2] => { results := [.lit (.bool false)], args := [d1, d2] }
  | _ => none }
def PageApartWrongFalsely : Prop := pageApartRow.holds Tryd.pinned (OpenSpec.ofChange pageApartWrong)

/-- 'posthorselaw11.PageChanges': WHATEVER THE INPUT: true; the input reads as it did. -/
def pageChangesSpec : ChangeSpec := { name := "pageChanges", fn := fun _ => fun
  | [d1, d2, d3] => { results := [.lit (.bool true)], args := [d1, d2, d3] }
  | _ => none }
def pageChangesRow : OpenClaim := { program := "ytegcaniikdibdaadoor", sum := "440396514ce3d503c58378efcc06b4700ded1a1eba5df4f10524e774f8b9a4bf", func := "posthorse/posthorselaw11.PageChanges", spec := "pageChanges", inPlace := ["slices.overlaps[string]", "internal/abi.NoEscape", "internal/bytealg.MakeNoZero", "internal/bytealg.IndexByteString", "internal/bytealg.IndexString"], unfollowed := true, recurses := true, named := ["posthorse/mark.nibbles", "unicode/utf8.first", "unicode/utf8.acceptRanges", "internal/bytealg.MaxLen"], apart := false, laid := [("unicode/utf8.acceptRanges", laid_unicode_utf8_acceptRanges), ("posthorse/mark.nibbles", laid_posthorse_mark_nibbles), ("unicode/utf8.first", laid_unicode_utf8_first)] }
def PageChangesSaid : Prop := pageChangesRow.holds Tryd.pinned (OpenSpec.ofChange pageChangesSpec)

/-- ITS FALSE NEIGHBOUR: 'it returns false'. Refute it at one input. -/
def pageChangesWrong : ChangeSpec := { name := "pageChanges", fn := fun _ => fun
  | [d1, d2, d3] => { results := [.lit (.bool false)], args := [d1, d2, d3] }
  | _ => none }
def PageChangesWrongFalsely : Prop := pageChangesRow.holds Tryd.pinned (OpenSpec.ofChange pageChangesWrong)

/- THE SECOND FORM. 'bulk': how many values and letters a reading holds, each counted each time it is reached (what is shared counts as often as it is met; a slice's spare places count too). A statement '..UptoSaid' is the law's where the arguments, and the package variables that the reading takes, are together of bulk at most 1048576: NARROWER than '..Said'. Prove '..Said' where nothing that the law and all that it calls make is longer than what came in: it says more and counts as full. Else prove '..UptoSaid'. A law counts once. -/
mutual
def uptoBulk {H : Type} : DataW H → Nat
  | .lit (.string bytes) => bytes.length + 1
  | .lit _ => 1
  | .nil => 1
  | .ptr d => uptoBulk d + 1
  | .slice elems spare => uptoBulkAll elems + uptoBulkAll spare + 1
  | .agg parts => uptoBulkAll parts + 1
  | .iface _ d => uptoBulk d + 1
  | .map entries => uptoBulkEntries entries + 1
  | .held _ => 1
def uptoBulkAll {H : Type} : List (DataW H) → Nat
  | [] => 0
  | d :: r => uptoBulk d + uptoBulkAll r
def uptoBulkEntries {H : Type} : List (Lit × DataW H) → Nat
  | [] => 0
  | x :: r => uptoBulkEntry x + uptoBulkEntries r
def uptoBulkEntry {H : Type} : Lit × DataW H → Nat
  | (.string bytes, d) => bytes.length + uptoBulk d + 1
  | (_, d) => uptoBulk d + 1
 end
def uptoSmall : (H : Type) → List (DataW H) → Bool := fun _ ds => decide (uptoBulkAll ds ≤ 1048576)
def OpenSpec.upto (s : _root_.Go.ChangeSpec) : _root_.Go.OpenSpec := { _root_.Go.OpenSpec.ofChange s with cond := some uptoSmall }

/-- 'posthorselaw02.FaultIs', WHERE WHAT IT READS IS OF BULK AT MOST 1048576: true; the input reads as it did. -/
def faultIsUptoRow : OpenClaim := { program := "ytegcaniikdibdaadoor", sum := "440396514ce3d503c58378efcc06b4700ded1a1eba5df4f10524e774f8b9a4bf", func := "posthorse/posthorselaw02.FaultIs", spec := "faultIs", inPlace := ["internal/abi.NoEscape", "internal/bytealg.MakeNoZero", "internal/reflectlite.TypeOf", "internal/reflectlite.ValueOf", "(internal/reflectlite.Value).Type", "(internal/reflectlite.Value).IsNil", "(internal/reflectlite.Value).Elem", "(internal/reflectlite.Value).Set"], unfollowed := true, recurses := true, named := ["internal/strconv.uint64pow10", "math/bits.deBruijn32tab", "math/bits.deBruijn64tab", "posthorse/api.words", "errors.errorType"], apart := false, laid := [("math/bits.deBruijn32tab", laid_math_bits_deBruijn32tab), ("math/bits.deBruijn64tab", laid_math_bits_deBruijn64tab), ("internal/strconv.uint64pow10", laid_internal_strconv_uint64pow10), ("posthorse/api.words", laid_posthorse_api_words), ("errors.errorType", laid_errors_errorType)], narrowed := true }
def FaultIsUptoSaid : Prop := faultIsUptoRow.holds Tryd.pinned (OpenSpec.upto faultIsSpec)

/-- 'posthorselaw02.FaultTexts', WHERE WHAT IT READS IS OF BULK AT MOST 1048576: true; the input reads as it did. -/
def faultTextsUptoRow : OpenClaim := { program := "ytegcaniikdibdaadoor", sum := "440396514ce3d503c58378efcc06b4700ded1a1eba5df4f10524e774f8b9a4bf", func := "posthorse/posthorselaw02.FaultTexts", spec := "faultTexts", inPlace := ["internal/abi.NoEscape", "internal/bytealg.MakeNoZero", "internal/reflectlite.TypeOf", "internal/reflectlite.ValueOf", "(internal/reflectlite.Value).Type", "(internal/reflectlite.Value).IsNil", "(internal/reflectlite.Value).Elem", "(internal/reflectlite.Value).Set"], unfollowed := true, recurses := true, named := ["internal/strconv.uint64pow10", "math/bits.deBruijn32tab", "math/bits.deBruijn64tab", "posthorse/api.words", "errors.errorType"], apart := false, laid := [("math/bits.deBruijn32tab", laid_math_bits_deBruijn32tab), ("math/bits.deBruijn64tab", laid_math_bits_deBruijn64tab), ("internal/strconv.uint64pow10", laid_internal_strconv_uint64pow10), ("posthorse/api.words", laid_posthorse_api_words), ("errors.errorType", laid_errors_errorType)], narrowed := true }
def FaultTextsUptoSaid : Prop := faultTextsUptoRow.holds Tryd.pinned (OpenSpec.upto faultTextsSpec)

/-- 'posthorselaw02.FaultJoins', WHERE WHAT IT READS IS OF BULK AT MOST 1048576: true; the input reads as it did. -/
def faultJoinsUptoRow : OpenClaim := { program := "ytegcaniikdibdaadoor", sum := "440396514ce3d503c58378efcc06b4700ded1a1eba5df4f10524e774f8b9a4bf", func := "posthorse/posthorselaw02.FaultJoins", spec := "faultJoins", inPlace := ["internal/abi.NoEscape", "internal/bytealg.MakeNoZero", "internal/reflectlite.TypeOf", "internal/reflectlite.ValueOf", "(internal/reflectlite.Value).Type", "(internal/reflectlite.Value).IsNil", "(internal/reflectlite.Value).Elem", "(internal/reflectlite.Value).Set"], unfollowed := true, recurses := true, named := ["internal/strconv.uint64pow10", "math/bits.deBruijn32tab", "math/bits.deBruijn64tab", "posthorse/api.words", "errors.errorType"], apart := false, laid := [("math/bits.deBruijn32tab", laid_math_bits_deBruijn32tab), ("math/bits.deBruijn64tab", laid_math_bits_deBruijn64tab), ("internal/strconv.uint64pow10", laid_internal_strconv_uint64pow10), ("posthorse/api.words", laid_posthorse_api_words), ("errors.errorType", laid_errors_errorType)], narrowed := true }
def FaultJoinsUptoSaid : Prop := faultJoinsUptoRow.holds Tryd.pinned (OpenSpec.upto faultJoinsSpec)

/-- 'posthorselaw02.FaultNil', WHERE WHAT IT READS IS OF BULK AT MOST 1048576: true; the input reads as it did. -/
def faultNilUptoRow : OpenClaim := { program := "ytegcaniikdibdaadoor", sum := "440396514ce3d503c58378efcc06b4700ded1a1eba5df4f10524e774f8b9a4bf", func := "posthorse/posthorselaw02.FaultNil", spec := "faultNil", inPlace := ["internal/abi.NoEscape", "internal/bytealg.MakeNoZero", "internal/reflectlite.TypeOf", "internal/reflectlite.ValueOf", "(internal/reflectlite.Value).Type", "(internal/reflectlite.Value).IsNil", "(internal/reflectlite.Value).Elem", "(internal/reflectlite.Value).Set"], unfollowed := true, recurses := true, named := ["internal/strconv.uint64pow10", "math/bits.deBruijn32tab", "math/bits.deBruijn64tab", "posthorse/api.words", "errors.errorType"], apart := false, laid := [("math/bits.deBruijn32tab", laid_math_bits_deBruijn32tab), ("math/bits.deBruijn64tab", laid_math_bits_deBruijn64tab), ("internal/strconv.uint64pow10", laid_internal_strconv_uint64pow10), ("posthorse/api.words", laid_posthorse_api_words), ("errors.errorType", laid_errors_errorType)], narrowed := true }
def FaultNilUptoSaid : Prop := faultNilUptoRow.holds Tryd.pinned (OpenSpec.upto faultNilSpec)

/-- 'posthorselaw02.FaultFinds', WHERE WHAT IT READS IS OF BULK AT MOST 1048576: true; the input reads as it did. -/
def faultFindsUptoRow : OpenClaim := { program := "ytegcaniikdibdaadoor", sum := "440396514ce3d503c58378efcc06b4700ded1a1eba5df4f10524e774f8b9a4bf", func := "posthorse/posthorselaw02.FaultFinds", spec := "faultFinds", inPlace := ["internal/abi.NoEscape", "internal/bytealg.MakeNoZero", "internal/reflectlite.TypeOf", "internal/reflectlite.ValueOf", "(internal/reflectlite.Value).Type", "(internal/reflectlite.Value).IsNil", "(internal/reflectlite.Value).Elem", "(internal/reflectlite.Value).Set"], unfollowed := true, recurses := true, named := ["internal/strconv.uint64pow10", "math/bits.deBruijn32tab", "math/bits.deBruijn64tab", "posthorse/api.words", "errors.errorType"], apart := false, laid := [("math/bits.deBruijn32tab", laid_math_bits_deBruijn32tab), ("math/bits.deBruijn64tab", laid_math_bits_deBruijn64tab), ("internal/strconv.uint64pow10", laid_internal_strconv_uint64pow10), ("posthorse/api.words", laid_posthorse_api_words), ("errors.errorType", laid_errors_errorType)], narrowed := true }
def FaultFindsUptoSaid : Prop := faultFindsUptoRow.holds Tryd.pinned (OpenSpec.upto faultFindsSpec)

/-- 'posthorselaw11.PageApart', WHERE WHAT IT READS IS OF BULK AT MOST 1048576: true; the input reads as it did. -/
def pageApartUptoRow : OpenClaim := { program := "ytegcaniikdibdaadoor", sum := "440396514ce3d503c58378efcc06b4700ded1a1eba5df4f10524e774f8b9a4bf", func := "posthorse/posthorselaw11.PageApart", spec := "pageApart", inPlace := ["slices.overlaps[string]", "internal/abi.NoEscape", "internal/bytealg.MakeNoZero", "internal/bytealg.IndexByteString", "internal/bytealg.IndexString"], unfollowed := true, recurses := true, named := ["posthorse/mark.nibbles", "unicode/utf8.first", "unicode/utf8.acceptRanges", "internal/bytealg.MaxLen"], apart := false, laid := [("unicode/utf8.acceptRanges", laid_unicode_utf8_acceptRanges), ("posthorse/mark.nibbles", laid_posthorse_mark_nibbles), ("unicode/utf8.first", laid_unicode_utf8_first)], narrowed := true }
def PageApartUptoSaid : Prop := pageApartUptoRow.holds Tryd.pinned (OpenSpec.upto pageApartSpec)

/-- 'posthorselaw11.PageChanges', WHERE WHAT IT READS IS OF BULK AT MOST 1048576: true; the input reads as it did. -/
def pageChangesUptoRow : OpenClaim := { program := "ytegcaniikdibdaadoor", sum := "440396514ce3d503c58378efcc06b4700ded1a1eba5df4f10524e774f8b9a4bf", func := "posthorse/posthorselaw11.PageChanges", spec := "pageChanges", inPlace := ["slices.overlaps[string]", "internal/abi.NoEscape", "internal/bytealg.MakeNoZero", "internal/bytealg.IndexByteString", "internal/bytealg.IndexString"], unfollowed := true, recurses := true, named := ["posthorse/mark.nibbles", "unicode/utf8.first", "unicode/utf8.acceptRanges", "internal/bytealg.MaxLen"], apart := false, laid := [("unicode/utf8.acceptRanges", laid_unicode_utf8_acceptRanges), ("posthorse/mark.nibbles", laid_posthorse_mark_nibbles), ("unicode/utf8.first", laid_unicode_utf8_first)], narrowed := true }
def PageChangesUptoSaid : Prop := pageChangesUptoRow.holds Tryd.pinned (OpenSpec.upto pageChangesSpec)

end Rows
end Go.Proofs.YtegcaniikdibdaaDoor
