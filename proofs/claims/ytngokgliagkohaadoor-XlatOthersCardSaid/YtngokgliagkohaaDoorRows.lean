/-
  NARROWER THAN 'FOR EVERY INPUT', by the rows' own cells (each row's printed sentence says how): BitsApart: laid · BitsLongest: laid · XlatVersions: laid · XlatOthers: laid · XlatNil: laid · BitsNone: laid · BitsGets: laid · BitsPlays: laid.
  DERIVED. THE GIVEN ROWS OF THIS SEAT. 8 by the template 'for every input the law returns true; each argument reads behind the call as it read before'; 0 by the template 'total and deterministic' (their statements: YtngokgliagkohaaDoorTotals.lean).
  GIVEN WITH THE SEED: the statements are not yours to turn. If you find one false, say at which input.
  Laid BY PROGRAM, IN A SANDBOX (cutbox-rows.mjs): the forced cells as the released guide's own fill.sh prints them over the translation 3eaecbc27ca861ff… (all of the seat's roots in one cut). By AI agents, Wed Nov 11 2026. No macro, syntax, notation, axiom, sorry.
-/
import Derived.Test.YtngokgliagkohaaDoorChecked
import GoSem.Claim
import GoSem.ClaimJoined
import GoSem.ClaimMapViews
import Derived.JoinedTies
import Derived.KernelRfl
namespace Go.Proofs.YtngokgliagkohaaDoor
/- THE CELL 'sum', in the pinned program and in every row, IS THE sha256 OF THE DUMP (.gsa) THAT YtngokgliagkohaaDoorProg.lean LOADS. Nothing in Lean hashes anything: it is a label: what it is worth is what the hold of that sum in a sandbox is worth. -/
noncomputable def Tryd.pinned : Pinned := { name := "ytngokgliagkohaadoor", sum := "3eaecbc27ca861ff74258dce1ea9895b857a8a847a3f66172558882dec519cf1", checked := Tryd.checked }
namespace Rows
def none {H : Type} : Left H := { results := [], args := [] }

/- WHAT THE LISTED PACKAGE-LEVEL VARIABLES READ AS WHEN THE CALL BEGINS. Each datum BY PROGRAM (the guide's laid-datum.mjs) off the statement by which the dump's own 'gosem.cut.vars' lays the variable. In a bare row this is a premise. The card (YtngokgliagkohaaDoorCards.lean) ties it to the program's text. -/
def laid_posthorse_mark_nibbles {H : Type} : DataW H := .agg [.lit (.int .u32 0), .lit (.int .u32 274646895), .lit (.int .u32 549293790), .lit (.int .u32 820201905), .lit (.int .u32 1098587580), .lit (.int .u32 1361435347), .lit (.int .u32 1640403810), .lit (.int .u32 1905808397), .lit (.int .u32 2197175160), .lit (.int .u32 2460548119), .lit (.int .u32 2722870694), .lit (.int .u32 2987750089), .lit (.int .u32 3280807620), .lit (.int .u32 3553878443), .lit (.int .u32 3811616794), .lit (.int .u32 4084100981)]
def laid_errors_errorType {H : Type} : DataW H := .iface "internal/reflectlite.rtype" (.agg [.ptr (.lit (.string [101, 114, 114, 111, 114]))])

/-- 'posthorselaw07.BitsApart': WHATEVER THE INPUT: true; the input reads as it did. -/
def bitsApartSpec : ChangeSpec := { name := "bitsApart", fn := fun _ => fun
  | [d1, d2, d3] => { results := [.lit (.bool true)], args := [d1, d2, d3] }
  | _ => none }
def bitsApartRow : OpenClaim := { program := "ytngokgliagkohaadoor", sum := "3eaecbc27ca861ff74258dce1ea9895b857a8a847a3f66172558882dec519cf1", func := "posthorse/posthorselaw07.BitsApart", spec := "bitsApart", inPlace := ["internal/abi.NoEscape", "internal/bytealg.MakeNoZero"], named := ["posthorse/mark.nibbles"], apart := false, laid := [("posthorse/mark.nibbles", laid_posthorse_mark_nibbles)] }
def BitsApartSaid : Prop := bitsApartRow.holds Tryd.pinned (OpenSpec.ofChange bitsApartSpec)

/-- ITS FALSE NEIGHBOUR: 'it returns false'. Refute it at one input. -/
def bitsApartWrong : ChangeSpec := { name := "bitsApart", fn := fun _ => fun
  | [d1, d2, d3] => { results := [.lit (.bool false)], args := [d1, d2, d3] }
  | _ => none }
def BitsApartWrongFalsely : Prop := bitsApartRow.holds Tryd.pinned (OpenSpec.ofChange bitsApartWrong)

/-- 'posthorselaw07.BitsLongest': WHATEVER THE INPUT: true; the input reads as it did. -/
def bitsLongestSpec : ChangeSpec := { name := "bitsLongest", fn := fun _ => fun
  | [d1, d2] => { results := [.lit (.bool true)], args := [d1, d2] }
  | _ => none }
def bitsLongestRow : OpenClaim := { program := "ytngokgliagkohaadoor", sum := "3eaecbc27ca861ff74258dce1ea9895b857a8a847a3f66172558882dec519cf1", func := "posthorse/posthorselaw07.BitsLongest", spec := "bitsLongest", inPlace := ["internal/abi.NoEscape", "internal/bytealg.MakeNoZero"], named := ["posthorse/mark.nibbles"], apart := false, laid := [("posthorse/mark.nibbles", laid_posthorse_mark_nibbles)] }
def BitsLongestSaid : Prop := bitsLongestRow.holds Tryd.pinned (OpenSpec.ofChange bitsLongestSpec)

/-- ITS FALSE NEIGHBOUR: 'it returns false'. Refute it at one input. -/
def bitsLongestWrong : ChangeSpec := { name := "bitsLongest", fn := fun _ => fun
  | [d1, d2] => { results := [.lit (.bool false)], args := [d1, d2] }
  | _ => none }
def BitsLongestWrongFalsely : Prop := bitsLongestRow.holds Tryd.pinned (OpenSpec.ofChange bitsLongestWrong)

/-- 'posthorselaw23.XlatVersions': WHATEVER THE INPUT: true; the input reads as it did. -/
def xlatVersionsSpec : ChangeSpec := { name := "xlatVersions", fn := fun _ => fun
  | [d1, d2] => { results := [.lit (.bool true)], args := [d1, d2] }
  | _ => none }
def xlatVersionsRow : OpenClaim := { program := "ytngokgliagkohaadoor", sum := "3eaecbc27ca861ff74258dce1ea9895b857a8a847a3f66172558882dec519cf1", func := "posthorse/posthorselaw23.XlatVersions", spec := "xlatVersions", inPlace := ["internal/reflectlite.TypeOf", "internal/reflectlite.ValueOf", "(internal/reflectlite.Value).Type", "(internal/reflectlite.Value).IsNil", "(internal/reflectlite.Value).Elem", "(internal/reflectlite.Value).Set"], unfollowed := true, recurses := true, named := ["errors.errorType"], apart := false, laid := [("errors.errorType", laid_errors_errorType)] }
def XlatVersionsSaid : Prop := xlatVersionsRow.holds Tryd.pinned (OpenSpec.ofChange xlatVersionsSpec)

/-- ITS FALSE NEIGHBOUR: 'it returns false'. Refute it at one input. -/
def xlatVersionsWrong : ChangeSpec := { name := "xlatVersions", fn := fun _ => fun
  | [d1, d2] => { results := [.lit (.bool false)], args := [d1, d2] }
  | _ => none }
def XlatVersionsWrongFalsely : Prop := xlatVersionsRow.holds Tryd.pinned (OpenSpec.ofChange xlatVersionsWrong)

/-- 'posthorselaw23.XlatOthers': WHATEVER THE INPUT: true; the input reads as it did. -/
def xlatOthersSpec : ChangeSpec := { name := "xlatOthers", fn := fun _ => fun
  | [d1, d2] => { results := [.lit (.bool true)], args := [d1, d2] }
  | _ => none }
def xlatOthersRow : OpenClaim := { program := "ytngokgliagkohaadoor", sum := "3eaecbc27ca861ff74258dce1ea9895b857a8a847a3f66172558882dec519cf1", func := "posthorse/posthorselaw23.XlatOthers", spec := "xlatOthers", inPlace := ["internal/reflectlite.TypeOf", "internal/reflectlite.ValueOf", "(internal/reflectlite.Value).Type", "(internal/reflectlite.Value).IsNil", "(internal/reflectlite.Value).Elem", "(internal/reflectlite.Value).Set"], unfollowed := true, recurses := true, named := ["errors.errorType"], apart := false, laid := [("errors.errorType", laid_errors_errorType)] }
def XlatOthersSaid : Prop := xlatOthersRow.holds Tryd.pinned (OpenSpec.ofChange xlatOthersSpec)

/-- ITS FALSE NEIGHBOUR: 'it returns false'. Refute it at one input. -/
def xlatOthersWrong : ChangeSpec := { name := "xlatOthers", fn := fun _ => fun
  | [d1, d2] => { results := [.lit (.bool false)], args := [d1, d2] }
  | _ => none }
def XlatOthersWrongFalsely : Prop := xlatOthersRow.holds Tryd.pinned (OpenSpec.ofChange xlatOthersWrong)

/-- 'posthorselaw23.XlatNil': WHATEVER THE INPUT: true; the input reads as it did. -/
def xlatNilSpec : ChangeSpec := { name := "xlatNil", fn := fun _ => fun
  | [d1, d2] => { results := [.lit (.bool true)], args := [d1, d2] }
  | _ => none }
def xlatNilRow : OpenClaim := { program := "ytngokgliagkohaadoor", sum := "3eaecbc27ca861ff74258dce1ea9895b857a8a847a3f66172558882dec519cf1", func := "posthorse/posthorselaw23.XlatNil", spec := "xlatNil", inPlace := ["internal/reflectlite.TypeOf", "internal/reflectlite.ValueOf", "(internal/reflectlite.Value).Type", "(internal/reflectlite.Value).IsNil", "(internal/reflectlite.Value).Elem", "(internal/reflectlite.Value).Set"], unfollowed := true, recurses := true, named := ["errors.errorType"], apart := false, laid := [("errors.errorType", laid_errors_errorType)] }
def XlatNilSaid : Prop := xlatNilRow.holds Tryd.pinned (OpenSpec.ofChange xlatNilSpec)

/-- ITS FALSE NEIGHBOUR: 'it returns false'. Refute it at one input. -/
def xlatNilWrong : ChangeSpec := { name := "xlatNil", fn := fun _ => fun
  | [d1, d2] => { results := [.lit (.bool false)], args := [d1, d2] }
  | _ => none }
def XlatNilWrongFalsely : Prop := xlatNilRow.holds Tryd.pinned (OpenSpec.ofChange xlatNilWrong)

/-- 'posthorselaw07.BitsNone': WHATEVER THE INPUT: true; the input reads as it did. -/
def bitsNoneSpec : ChangeSpec := { name := "bitsNone", fn := fun _ => fun
  | [d1, d2] => { results := [.lit (.bool true)], args := [d1, d2] }
  | _ => none }
def bitsNoneRow : OpenClaim := { program := "ytngokgliagkohaadoor", sum := "3eaecbc27ca861ff74258dce1ea9895b857a8a847a3f66172558882dec519cf1", func := "posthorse/posthorselaw07.BitsNone", spec := "bitsNone", inPlace := ["internal/abi.NoEscape", "internal/bytealg.MakeNoZero", "internal/reflectlite.ValueOf", "(internal/reflectlite.Value).Type", "(internal/reflectlite.Value).IsNil", "internal/reflectlite.TypeOf", "(internal/reflectlite.Value).Elem", "(internal/reflectlite.Value).Set"], unfollowed := true, recurses := true, named := ["posthorse/mark.nibbles", "errors.errorType"], apart := false, laid := [("errors.errorType", laid_errors_errorType), ("posthorse/mark.nibbles", laid_posthorse_mark_nibbles)] }
def BitsNoneSaid : Prop := bitsNoneRow.holds Tryd.pinned (OpenSpec.ofChange bitsNoneSpec)

/-- ITS FALSE NEIGHBOUR: 'it returns false'. Refute it at one input. -/
def bitsNoneWrong : ChangeSpec := { name := "bitsNone", fn := fun _ => fun
  | [d1, d2] => { results := [.lit (.bool false)], args := [d1, d2] }
  | _ => none }
def BitsNoneWrongFalsely : Prop := bitsNoneRow.holds Tryd.pinned (OpenSpec.ofChange bitsNoneWrong)

/-- 'posthorselaw07.BitsGets': WHATEVER THE INPUT: true; the input reads as it did. -/
def bitsGetsSpec : ChangeSpec := { name := "bitsGets", fn := fun _ => fun
  | [d1, d2, d3] => { results := [.lit (.bool true)], args := [d1, d2, d3] }
  | _ => none }
def bitsGetsRow : OpenClaim := { program := "ytngokgliagkohaadoor", sum := "3eaecbc27ca861ff74258dce1ea9895b857a8a847a3f66172558882dec519cf1", func := "posthorse/posthorselaw07.BitsGets", spec := "bitsGets", inPlace := ["internal/abi.NoEscape", "internal/bytealg.MakeNoZero", "internal/reflectlite.ValueOf", "(internal/reflectlite.Value).Type", "(internal/reflectlite.Value).IsNil", "internal/reflectlite.TypeOf", "(internal/reflectlite.Value).Elem", "(internal/reflectlite.Value).Set"], unfollowed := true, recurses := true, named := ["posthorse/mark.nibbles", "errors.errorType"], apart := false, laid := [("errors.errorType", laid_errors_errorType), ("posthorse/mark.nibbles", laid_posthorse_mark_nibbles)] }
def BitsGetsSaid : Prop := bitsGetsRow.holds Tryd.pinned (OpenSpec.ofChange bitsGetsSpec)

/-- ITS FALSE NEIGHBOUR: 'it returns false'. Refute it at one input. -/
def bitsGetsWrong : ChangeSpec := { name := "bitsGets", fn := fun _ => fun
  | [d1, d2, d3] => { results := [.lit (.bool false)], args := [d1, d2, d3] }
  | _ => none }
def BitsGetsWrongFalsely : Prop := bitsGetsRow.holds Tryd.pinned (OpenSpec.ofChange bitsGetsWrong)

/-- 'posthorselaw07.BitsPlays': WHATEVER THE INPUT: true; the input reads as it did. -/
def bitsPlaysSpec : ChangeSpec := { name := "bitsPlays", fn := fun _ => fun
  | [d1, d2] => { results := [.lit (.bool true)], args := [d1, d2] }
  | _ => none }
def bitsPlaysRow : OpenClaim := { program := "ytngokgliagkohaadoor", sum := "3eaecbc27ca861ff74258dce1ea9895b857a8a847a3f66172558882dec519cf1", func := "posthorse/posthorselaw07.BitsPlays", spec := "bitsPlays", inPlace := ["internal/abi.NoEscape", "internal/bytealg.MakeNoZero", "internal/reflectlite.ValueOf", "(internal/reflectlite.Value).Type", "(internal/reflectlite.Value).IsNil", "internal/reflectlite.TypeOf", "(internal/reflectlite.Value).Elem", "(internal/reflectlite.Value).Set"], unfollowed := true, recurses := true, named := ["posthorse/mark.nibbles", "errors.errorType"], apart := false, laid := [("errors.errorType", laid_errors_errorType), ("posthorse/mark.nibbles", laid_posthorse_mark_nibbles)] }
def BitsPlaysSaid : Prop := bitsPlaysRow.holds Tryd.pinned (OpenSpec.ofChange bitsPlaysSpec)

/-- ITS FALSE NEIGHBOUR: 'it returns false'. Refute it at one input. -/
def bitsPlaysWrong : ChangeSpec := { name := "bitsPlays", fn := fun _ => fun
  | [d1, d2] => { results := [.lit (.bool false)], args := [d1, d2] }
  | _ => none }
def BitsPlaysWrongFalsely : Prop := bitsPlaysRow.holds Tryd.pinned (OpenSpec.ofChange bitsPlaysWrong)

/- THE SECOND FORM. 'bulk': how many values and letters a reading holds, each counted each time it is reached (what is shared counts as often as it is met; a slice's spare places count too). A statement '..UptoSaid' is the law's where the arguments, and the package variables that the reading takes, are together of bulk at most 1048576: NARROWER than '..Said'. Prove '..Said' where nothing that the law and all that it calls make is longer than what came in: it says more and counts as full. Else prove '..UptoSaid'. A law counts once. -/
mutual
def uptoBulk {H : Type} : DataW H → Nat
  | .lit (.string bytes) => bytes.length + 1
  | .lit _ => 1
  | .nil => 1
  | .ptr d => uptoBulk d + 1
  | .slice elems spare => uptoBulkAll elems + uptoBulkAll spare + 1
  | .agg parts => uptoBulkAll parts + 1
  | .iface _ d => uptoBulk d + 1
  | .map entries => uptoBulkEntries entries + 1
  | .held _ => 1
def uptoBulkAll {H : Type} : List (DataW H) → Nat
  | [] => 0
  | d :: r => uptoBulk d + uptoBulkAll r
def uptoBulkEntries {H : Type} : List (Lit × DataW H) → Nat
  | [] => 0
  | x :: r => uptoBulkEntry x + uptoBulkEntries r
def uptoBulkEntry {H : Type} : Lit × DataW H → Nat
  | (.string bytes, d) => bytes.length + uptoBulk d + 1
  | (_, d) => uptoBulk d + 1
 end
def uptoSmall : (H : Type) → List (DataW H) → Bool := fun _ ds => decide (uptoBulkAll ds ≤ 1048576)
def OpenSpec.upto (s : _root_.Go.ChangeSpec) : _root_.Go.OpenSpec := { _root_.Go.OpenSpec.ofChange s with cond := some uptoSmall }

/-- 'posthorselaw07.BitsApart', WHERE WHAT IT READS IS OF BULK AT MOST 1048576: true; the input reads as it did. -/
def bitsApartUptoRow : OpenClaim := { program := "ytngokgliagkohaadoor", sum := "3eaecbc27ca861ff74258dce1ea9895b857a8a847a3f66172558882dec519cf1", func := "posthorse/posthorselaw07.BitsApart", spec := "bitsApart", inPlace := ["internal/abi.NoEscape", "internal/bytealg.MakeNoZero"], named := ["posthorse/mark.nibbles"], apart := false, laid := [("posthorse/mark.nibbles", laid_posthorse_mark_nibbles)], narrowed := true }
def BitsApartUptoSaid : Prop := bitsApartUptoRow.holds Tryd.pinned (OpenSpec.upto bitsApartSpec)

/-- 'posthorselaw07.BitsLongest', WHERE WHAT IT READS IS OF BULK AT MOST 1048576: true; the input reads as it did. -/
def bitsLongestUptoRow : OpenClaim := { program := "ytngokgliagkohaadoor", sum := "3eaecbc27ca861ff74258dce1ea9895b857a8a847a3f66172558882dec519cf1", func := "posthorse/posthorselaw07.BitsLongest", spec := "bitsLongest", inPlace := ["internal/abi.NoEscape", "internal/bytealg.MakeNoZero"], named := ["posthorse/mark.nibbles"], apart := false, laid := [("posthorse/mark.nibbles", laid_posthorse_mark_nibbles)], narrowed := true }
def BitsLongestUptoSaid : Prop := bitsLongestUptoRow.holds Tryd.pinned (OpenSpec.upto bitsLongestSpec)

/-- 'posthorselaw23.XlatVersions', WHERE WHAT IT READS IS OF BULK AT MOST 1048576: true; the input reads as it did. -/
def xlatVersionsUptoRow : OpenClaim := { program := "ytngokgliagkohaadoor", sum := "3eaecbc27ca861ff74258dce1ea9895b857a8a847a3f66172558882dec519cf1", func := "posthorse/posthorselaw23.XlatVersions", spec := "xlatVersions", inPlace := ["internal/reflectlite.TypeOf", "internal/reflectlite.ValueOf", "(internal/reflectlite.Value).Type", "(internal/reflectlite.Value).IsNil", "(internal/reflectlite.Value).Elem", "(internal/reflectlite.Value).Set"], unfollowed := true, recurses := true, named := ["errors.errorType"], apart := false, laid := [("errors.errorType", laid_errors_errorType)], narrowed := true }
def XlatVersionsUptoSaid : Prop := xlatVersionsUptoRow.holds Tryd.pinned (OpenSpec.upto xlatVersionsSpec)

/-- 'posthorselaw23.XlatOthers', WHERE WHAT IT READS IS OF BULK AT MOST 1048576: true; the input reads as it did. -/
def xlatOthersUptoRow : OpenClaim := { program := "ytngokgliagkohaadoor", sum := "3eaecbc27ca861ff74258dce1ea9895b857a8a847a3f66172558882dec519cf1", func := "posthorse/posthorselaw23.XlatOthers", spec := "xlatOthers", inPlace := ["internal/reflectlite.TypeOf", "internal/reflectlite.ValueOf", "(internal/reflectlite.Value).Type", "(internal/reflectlite.Value).IsNil", "(internal/reflectlite.Value).Elem", "(internal/reflectlite.Value).Set"], unfollowed := true, recurses := true, named := ["errors.errorType"], apart := false, laid := [("errors.errorType", laid_errors_errorType)], narrowed := true }
def XlatOthersUptoSaid : Prop := xlatOthersUptoRow.holds Tryd.pinned (OpenSpec.upto xlatOthersSpec)

/-- 'posthorselaw23.XlatNil', WHERE WHAT IT READS IS OF BULK AT MOST 1048576: true; the input reads as it did. -/
def xlatNilUptoRow : OpenClaim := { program := "ytngokgliagkohaadoor", sum := "3eaecbc27ca861ff74258dce1ea9895b857a8a847a3f66172558882dec519cf1", func := "posthorse/posthorselaw23.XlatNil", spec := "xlatNil", inPlace := ["internal/reflectlite.TypeOf", "internal/reflectlite.ValueOf", "(internal/reflectlite.Value).Type", "(internal/reflectlite.Value).IsNil", "(internal/reflectlite.Value).Elem", "(internal/reflectlite.Value).Set"], unfollowed := true, recurses := true, named := ["errors.errorType"], apart := false, laid := [("errors.errorType", laid_errors_errorType)], narrowed := true }
def XlatNilUptoSaid : Prop := xlatNilUptoRow.holds Tryd.pinned (OpenSpec.upto xlatNilSpec)

/-- 'posthorselaw07.BitsNone', WHERE WHAT IT READS IS OF BULK AT MOST 1048576: true; the input reads as it did. -/
def bitsNoneUptoRow : OpenClaim := { program := "ytngokgliagkohaadoor", sum := "3eaecbc27ca861ff74258dce1ea9895b857a8a847a3f66172558882dec519cf1", func := "posthorse/posthorselaw07.BitsNone", spec := "bitsNone", inPlace := ["internal/abi.NoEscape", "internal/bytealg.MakeNoZero", "internal/reflectlite.ValueOf", "(internal/reflectlite.Value).Type", "(internal/reflectlite.Value).IsNil", "internal/reflectlite.TypeOf", "(internal/reflectlite.Value).Elem", "(internal/reflectlite.Value).Set"], unfollowed := true, recurses := true, named := ["posthorse/mark.nibbles", "errors.errorType"], apart := false, laid := [("errors.errorType", laid_errors_errorType), ("posthorse/mark.nibbles", laid_posthorse_mark_nibbles)], narrowed := true }
def BitsNoneUptoSaid : Prop := bitsNoneUptoRow.holds Tryd.pinned (OpenSpec.upto bitsNoneSpec)

/-- 'posthorselaw07.BitsGets', WHERE WHAT IT READS IS OF BULK AT MOST 1048576: true; the input reads as it did. -/
def bitsGetsUptoRow : OpenClaim := { program := "ytngokgliagkohaadoor", sum := "3eaecbc27ca861ff74258dce1ea9895b857a8a847a3f66172558882dec519cf1", func := "posthorse/posthorselaw07.BitsGets", spec := "bitsGets", inPlace := ["internal/abi.NoEscape", "internal/bytealg.MakeNoZero", "internal/reflectlite.ValueOf", "(internal/reflectlite.Value).Type", "(internal/reflectlite.Value).IsNil", "internal/reflectlite.TypeOf", "(internal/reflectlite.Value).Elem", "(internal/reflectlite.Value).Set"], unfollowed := true, recurses := true, named := ["posthorse/mark.nibbles", "errors.errorType"], apart := false, laid := [("errors.errorType", laid_errors_errorType), ("posthorse/mark.nibbles", laid_posthorse_mark_nibbles)], narrowed := true }
def BitsGetsUptoSaid : Prop := bitsGetsUptoRow.holds Tryd.pinned (OpenSpec.upto bitsGetsSpec)

/-- 'posthorselaw07.BitsPlays', WHERE WHAT IT READS IS OF BULK AT MOST 1048576: true; the input reads as it did. -/
def bitsPlaysUptoRow : OpenClaim := { program := "ytngokgliagkohaadoor", sum := "3eaecbc27ca861ff74258dce1ea9895b857a8a847a3f66172558882dec519cf1", func := "posthorse/posthorselaw07.BitsPlays", spec := "bitsPlays", inPlace := ["internal/abi.NoEscape", "internal/bytealg.MakeNoZero", "internal/reflectlite.ValueOf", "(internal/reflectlite.Value).Type", "(internal/reflectlite.Value).IsNil", "internal/reflectlite.TypeOf", "(internal/reflectlite.Value).Elem", "(internal/reflectlite.Value).Set"], unfollowed := true, recurses := true, named := ["posthorse/mark.nibbles", "errors.errorType"], apart := false, laid := [("errors.errorType", laid_errors_errorType), ("posthorse/mark.nibbles", laid_posthorse_mark_nibbles)], narrowed := true }
def BitsPlaysUptoSaid : Prop := bitsPlaysUptoRow.holds Tryd.pinned (OpenSpec.upto bitsPlaysSpec)

end Rows
end Go.Proofs.YtngokgliagkohaaDoor
