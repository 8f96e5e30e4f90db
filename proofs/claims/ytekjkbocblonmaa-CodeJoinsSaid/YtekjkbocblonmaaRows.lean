/-
  No cell of these rows narrows 'for every input' (looked for: loops, veiled, ifaces, maps, wideKeys, modest, calm, conditions, laid).
  DERIVED. THE GIVEN ROWS OF THIS SEAT. 4 by the template 'for every input the law returns true; each argument reads behind the call as it read before'; 0 by the template 'total and deterministic' (their statements: YtekjkbocblonmaaTotals.lean).
  GIVEN WITH THE SEED: the statements are not yours to turn. If you find one false, say at which input.
  Laid BY PROGRAM, IN A SANDBOX (cutbox-rows.mjs): the forced cells as the released guide's own fill.sh prints them over the translation b1baca169f4b007d… (all of the seat's roots in one cut). By AI agents, Wed Nov 11 2026. No macro, syntax, notation, axiom, sorry.
-/
import Derived.Test.YtekjkbocblonmaaChecked
import GoSem.Claim
import GoSem.ClaimJoined
import GoSem.ClaimMapViews
import Derived.JoinedTies
import Derived.KernelRfl
namespace Go.Proofs.Ytekjkbocblonmaa
/- THE CELL 'sum', in the pinned program and in every row, IS THE sha256 OF THE DUMP (.gsa) THAT YtekjkbocblonmaaProg.lean LOADS. Nothing in Lean hashes anything: it is a label: what it is worth is what the hold of that sum in a sandbox is worth. -/
noncomputable def Try.pinned : Pinned := { name := "ytekjkbocblonmaa", sum := "b1baca169f4b007d79f86cd74615912a105cab1ad8eaebb75568f29fc1832423", checked := Try.checked }
namespace Rows
def none {H : Type} : Left H := { results := [], args := [] }

/-- 'posthorselaw09.SuperPlaces': WHATEVER THE INPUT: true; the input reads as it did. -/
def superPlacesSpec : ChangeSpec := { name := "superPlaces", fn := fun _ => fun
  | [d1, d2, d3] => { results := [.lit (.bool true)], args := [d1, d2, d3] }
  | _ => none }
def superPlacesRow : OpenClaim := { program := "ytekjkbocblonmaa", sum := "b1baca169f4b007d79f86cd74615912a105cab1ad8eaebb75568f29fc1832423", func := "posthorse/posthorselaw09.SuperPlaces", spec := "superPlaces", apart := false }
def SuperPlacesSaid : Prop := superPlacesRow.holds Try.pinned (OpenSpec.ofChange superPlacesSpec)

/-- ITS FALSE NEIGHBOUR: 'it returns false'. Refute it at one input. -/
def superPlacesWrong : ChangeSpec := { name := "superPlaces", fn := fun _ => fun
  | [d1, d2, d3] => { results := [.lit (.bool false)], args := [d1, d2, d3] }
  | _ => none }
def SuperPlacesWrongFalsely : Prop := superPlacesRow.holds Try.pinned (OpenSpec.ofChange superPlacesWrong)

/-- 'posthorselaw09.SuperOrder': WHATEVER THE INPUT: true; the input reads as it did. -/
def superOrderSpec : ChangeSpec := { name := "superOrder", fn := fun _ => fun
  | [d1, d2] => { results := [.lit (.bool true)], args := [d1, d2] }
  | _ => none }
def superOrderRow : OpenClaim := { program := "ytekjkbocblonmaa", sum := "b1baca169f4b007d79f86cd74615912a105cab1ad8eaebb75568f29fc1832423", func := "posthorse/posthorselaw09.SuperOrder", spec := "superOrder", apart := false }
def SuperOrderSaid : Prop := superOrderRow.holds Try.pinned (OpenSpec.ofChange superOrderSpec)

/-- ITS FALSE NEIGHBOUR: 'it returns false'. Refute it at one input. -/
def superOrderWrong : ChangeSpec := { name := "superOrder", fn := fun _ => fun
  | [d1, d2] => { results := [.lit (.bool false)], args := [d1, d2] }
  | _ => none }
def SuperOrderWrongFalsely : Prop := superOrderRow.holds Try.pinned (OpenSpec.ofChange superOrderWrong)

/-- 'posthorselaw17.CodeApart': WHATEVER THE INPUT: true; the input reads as it did. -/
def codeApartSpec : ChangeSpec := { name := "codeApart", fn := fun _ => fun
  | [d1, d2] => { results := [.lit (.bool true)], args := [d1, d2] }
  | _ => none }
def codeApartRow : OpenClaim := { program := "ytekjkbocblonmaa", sum := "b1baca169f4b007d79f86cd74615912a105cab1ad8eaebb75568f29fc1832423", func := "posthorse/posthorselaw17.CodeApart", spec := "codeApart", inPlace := ["internal/abi.NoEscape"], apart := false }
def CodeApartSaid : Prop := codeApartRow.holds Try.pinned (OpenSpec.ofChange codeApartSpec)

/-- ITS FALSE NEIGHBOUR: 'it returns false'. Refute it at one input. -/
def codeApartWrong : ChangeSpec := { name := "codeApart", fn := fun _ => fun
  | [d1, d2] => { results := [.lit (.bool false)], args := [d1, d2] }
  | _ => none }
def CodeApartWrongFalsely : Prop := codeApartRow.holds Try.pinned (OpenSpec.ofChange codeApartWrong)

/-- 'posthorselaw17.CodeJoins': WHATEVER THE INPUT: true; the input reads as it did. -/
def codeJoinsSpec : ChangeSpec := { name := "codeJoins", fn := fun _ => fun
  | [d1, d2, d3] => { results := [.lit (.bool true)], args := [d1, d2, d3] }
  | _ => none }
def codeJoinsRow : OpenClaim := { program := "ytekjkbocblonmaa", sum := "b1baca169f4b007d79f86cd74615912a105cab1ad8eaebb75568f29fc1832423", func := "posthorse/posthorselaw17.CodeJoins", spec := "codeJoins", inPlace := ["internal/abi.NoEscape"], apart := false }
def CodeJoinsSaid : Prop := codeJoinsRow.holds Try.pinned (OpenSpec.ofChange codeJoinsSpec)

/-- ITS FALSE NEIGHBOUR: 'it returns false'. Refute it at one input. -/
def codeJoinsWrong : ChangeSpec := { name := "codeJoins", fn := fun _ => fun
  | [d1, d2, d3] => { results := [.lit (.bool false)], args := [d1, d2, d3] }
  | _ => none }
def CodeJoinsWrongFalsely : Prop := codeJoinsRow.holds Try.pinned (OpenSpec.ofChange codeJoinsWrong)

/- THE SECOND FORM. 'bulk': how many values and letters a reading holds, each counted each time it is reached (what is shared counts as often as it is met; a slice's spare places count too). A statement '..UptoSaid' is the law's where the arguments, and the package variables that the reading takes, are together of bulk at most 1048576: NARROWER than '..Said'. Prove '..Said' where nothing that the law and all that it calls make is longer than what came in: it says more and counts as full. Else prove '..UptoSaid'. A law counts once. -/
mutual
def uptoBulk {H : Type} : DataW H → Nat
  | .lit (.string bytes) => bytes.length + 1
  | .lit _ => 1
  | .nil => 1
  | .ptr d => uptoBulk d + 1
  | .slice elems spare => uptoBulkAll elems + uptoBulkAll spare + 1
  | .agg parts => uptoBulkAll parts + 1
  | .iface _ d => uptoBulk d + 1
  | .map entries => uptoBulkEntries entries + 1
  | .held _ => 1
def uptoBulkAll {H : Type} : List (DataW H) → Nat
  | [] => 0
  | d :: r => uptoBulk d + uptoBulkAll r
def uptoBulkEntries {H : Type} : List (Lit × DataW H) → Nat
  | [] => 0
  | x :: r => uptoBulkEntry x + uptoBulkEntries r
def uptoBulkEntry {H : Type} : Lit × DataW H → Nat
  | (.string bytes, d) => bytes.length + uptoBulk d + 1
  | (_, d) => uptoBulk d + 1
 end
def uptoSmall : (H : Type) → List (DataW H) → Bool := fun _ ds => decide (uptoBulkAll ds ≤ 1048576)
def OpenSpec.upto (s : _root_.Go.ChangeSpec) : _root_.Go.OpenSpec := { _root_.Go.OpenSpec.ofChange s with cond := some uptoSmall }

/-- 'posthorselaw09.SuperPlaces', WHERE WHAT IT READS IS OF BULK AT MOST 1048576: true; the input reads as it did. -/
def superPlacesUptoRow : OpenClaim := { program := "ytekjkbocblonmaa", sum := "b1baca169f4b007d79f86cd74615912a105cab1ad8eaebb75568f29fc1832423", func := "posthorse/posthorselaw09.SuperPlaces", spec := "superPlaces", apart := false, narrowed := true }
def SuperPlacesUptoSaid : Prop := superPlacesUptoRow.holds Try.pinned (OpenSpec.upto superPlacesSpec)

/-- 'posthorselaw09.SuperOrder', WHERE WHAT IT READS IS OF BULK AT MOST 1048576: true; the input reads as it did. -/
def superOrderUptoRow : OpenClaim := { program := "ytekjkbocblonmaa", sum := "b1baca169f4b007d79f86cd74615912a105cab1ad8eaebb75568f29fc1832423", func := "posthorse/posthorselaw09.SuperOrder", spec := "superOrder", apart := false, narrowed := true }
def SuperOrderUptoSaid : Prop := superOrderUptoRow.holds Try.pinned (OpenSpec.upto superOrderSpec)

/-- 'posthorselaw17.CodeApart', WHERE WHAT IT READS IS OF BULK AT MOST 1048576: true; the input reads as it did. -/
def codeApartUptoRow : OpenClaim := { program := "ytekjkbocblonmaa", sum := "b1baca169f4b007d79f86cd74615912a105cab1ad8eaebb75568f29fc1832423", func := "posthorse/posthorselaw17.CodeApart", spec := "codeApart", inPlace := ["internal/abi.NoEscape"], apart := false, narrowed := true }
def CodeApartUptoSaid : Prop := codeApartUptoRow.holds Try.pinned (OpenSpec.upto codeApartSpec)

/-- 'posthorselaw17.CodeJoins', WHERE WHAT IT READS IS OF BULK AT MOST 1048576: true; the input reads as it did. -/
def codeJoinsUptoRow : OpenClaim := { program := "ytekjkbocblonmaa", sum := "b1baca169f4b007d79f86cd74615912a105cab1ad8eaebb75568f29fc1832423", func := "posthorse/posthorselaw17.CodeJoins", spec := "codeJoins", inPlace := ["internal/abi.NoEscape"], apart := false, narrowed := true }
def CodeJoinsUptoSaid : Prop := codeJoinsUptoRow.holds Try.pinned (OpenSpec.upto codeJoinsSpec)

end Rows
end Go.Proofs.Ytekjkbocblonmaa
