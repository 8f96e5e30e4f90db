/-
  NARROWER THAN 'FOR EVERY INPUT', by the rows' own cells (each row's printed sentence says how): NvmePlays: laid · NvmeRefuses: laid · DriveNil: laid.
  DERIVED. THE GIVEN ROWS OF THIS SEAT. 3 by the template 'for every input the law returns true; each argument reads behind the call as it read before'; 0 by the template 'total and deterministic' (their statements: YtofiedgnnpednaaDoorTotals.lean).
  GIVEN WITH THE SEED: the statements are not yours to turn. If you find one false, say at which input.
  Laid BY PROGRAM, IN A SANDBOX (cutbox-rows.mjs): the forced cells as the released guide's own fill.sh prints them over the translation 69b16cb22afc348a… (all of the seat's roots in one cut). By AI agents, Wed Nov 11 2026. No macro, syntax, notation, axiom, sorry.
-/
import Derived.Test.YtofiedgnnpednaaDoorChecked
import GoSem.Claim
import GoSem.ClaimJoined
import GoSem.ClaimMapViews
import Derived.JoinedTies
import Derived.KernelRfl
namespace Go.Proofs.YtofiedgnnpednaaDoor
/- THE CELL 'sum', in the pinned program and in every row, IS THE sha256 OF THE DUMP (.gsa) THAT YtofiedgnnpednaaDoorProg.lean LOADS. Nothing in Lean hashes anything: it is a label: what it is worth is what the hold of that sum in a sandbox is worth. -/
noncomputable def Tryd.pinned : Pinned := { name := "ytofiedgnnpednaadoor", sum := "69b16cb22afc348a1f6a61f17b4ed7421865b0b5c7f77253abb4077c271eab9f", checked := Tryd.checked }
namespace Rows
def none {H : Type} : Left H := { results := [], args := [] }

/- WHAT THE LISTED PACKAGE-LEVEL VARIABLES READ AS WHEN THE CALL BEGINS. Each datum BY PROGRAM (the guide's laid-datum.mjs) off the statement by which the dump's own 'gosem.cut.vars' lays the variable. In a bare row this is a premise. The card (YtofiedgnnpednaaDoorCards.lean) ties it to the program's text. -/
def laid_errors_errorType {H : Type} : DataW H := .iface "internal/reflectlite.rtype" (.agg [.ptr (.lit (.string [101, 114, 114, 111, 114]))])

/-- 'posthorselaw04.NvmePlays': WHATEVER THE INPUT: true; the input reads as it did. -/
def nvmePlaysSpec : ChangeSpec := { name := "nvmePlays", fn := fun _ => fun
  | [d1, d2] => { results := [.lit (.bool true)], args := [d1, d2] }
  | _ => none }
def nvmePlaysRow : OpenClaim := { program := "ytofiedgnnpednaadoor", sum := "69b16cb22afc348a1f6a61f17b4ed7421865b0b5c7f77253abb4077c271eab9f", func := "posthorse/posthorselaw04.NvmePlays", spec := "nvmePlays", inPlace := ["internal/abi.NoEscape", "internal/bytealg.MakeNoZero", "internal/reflectlite.ValueOf", "(internal/reflectlite.Value).Type", "(internal/reflectlite.Value).IsNil", "internal/reflectlite.TypeOf", "(internal/reflectlite.Value).Elem", "(internal/reflectlite.Value).Set", "maps.clone"], unfollowed := true, recurses := true, named := ["errors.errorType"], apart := false, laid := [("errors.errorType", laid_errors_errorType)] }
def NvmePlaysSaid : Prop := nvmePlaysRow.holds Tryd.pinned (OpenSpec.ofChange nvmePlaysSpec)

/-- ITS FALSE NEIGHBOUR: 'it returns false'. Refute it at one input. -/
def nvmePlaysWrong : ChangeSpec := { name := "nvmePlays", fn := fun _ => fun
  | [d1, d2] => { results := [.lit (.bool false)], args := [d1, d2] }
  | _ => none }
def NvmePlaysWrongFalsely : Prop := nvmePlaysRow.holds Tryd.pinned (OpenSpec.ofChange nvmePlaysWrong)

/-- 'posthorselaw04.NvmeRefuses': WHATEVER THE INPUT: true; the input reads as it did. -/
def nvmeRefusesSpec : ChangeSpec := { name := "nvmeRefuses", fn := fun _ => fun
  | [d1, d2] => { results := [.lit (.bool true)], args := [d1, d2] }
  | _ => none }
def nvmeRefusesRow : OpenClaim := { program := "ytofiedgnnpednaadoor", sum := "69b16cb22afc348a1f6a61f17b4ed7421865b0b5c7f77253abb4077c271eab9f", func := "posthorse/posthorselaw04.NvmeRefuses", spec := "nvmeRefuses", inPlace := ["internal/abi.NoEscape", "internal/bytealg.MakeNoZero", "internal/reflectlite.ValueOf", "(internal/reflectlite.Value).Type", "(internal/reflectlite.Value).IsNil", "internal/reflectlite.TypeOf", "(internal/reflectlite.Value).Elem", "(internal/reflectlite.Value).Set", "maps.clone"], unfollowed := true, recurses := true, named := ["errors.errorType"], apart := false, laid := [("errors.errorType", laid_errors_errorType)] }
def NvmeRefusesSaid : Prop := nvmeRefusesRow.holds Tryd.pinned (OpenSpec.ofChange nvmeRefusesSpec)

/-- ITS FALSE NEIGHBOUR: 'it returns false'. Refute it at one input. -/
def nvmeRefusesWrong : ChangeSpec := { name := "nvmeRefuses", fn := fun _ => fun
  | [d1, d2] => { results := [.lit (.bool false)], args := [d1, d2] }
  | _ => none }
def NvmeRefusesWrongFalsely : Prop := nvmeRefusesRow.holds Tryd.pinned (OpenSpec.ofChange nvmeRefusesWrong)

/-- 'posthorselaw05.DriveNil': WHATEVER THE INPUT: true; the input reads as it did. -/
def driveNilSpec : ChangeSpec := { name := "driveNil", fn := fun _ => fun
  | [d] => { results := [.lit (.bool true)], args := [d] }
  | _ => none }
def driveNilRow : OpenClaim := { program := "ytofiedgnnpednaadoor", sum := "69b16cb22afc348a1f6a61f17b4ed7421865b0b5c7f77253abb4077c271eab9f", func := "posthorse/posthorselaw05.DriveNil", spec := "driveNil", inPlace := ["internal/reflectlite.TypeOf", "internal/abi.NoEscape", "internal/bytealg.MakeNoZero", "internal/reflectlite.ValueOf", "(internal/reflectlite.Value).Type", "(internal/reflectlite.Value).IsNil", "(internal/reflectlite.Value).Elem", "(internal/reflectlite.Value).Set"], unfollowed := true, recurses := true, named := ["errors.errorType"], apart := false, laid := [("errors.errorType", laid_errors_errorType)] }
def DriveNilSaid : Prop := driveNilRow.holds Tryd.pinned (OpenSpec.ofChange driveNilSpec)

/-- ITS FALSE NEIGHBOUR: 'it returns false'. Refute it at one input. -/
def driveNilWrong : ChangeSpec := { name := "driveNil", fn := fun _ => fun
  | [d] => { results := [.lit (.bool false)], args := [d] }
  | _ => none }
def DriveNilWrongFalsely : Prop := driveNilRow.holds Tryd.pinned (OpenSpec.ofChange driveNilWrong)

/- THE SECOND FORM. 'bulk': how many values and letters a reading holds, each counted each time it is reached (what is shared counts as often as it is met; a slice's spare places count too). A statement '..UptoSaid' is the law's where the arguments, and the package variables that the reading takes, are together of bulk at most 1048576: NARROWER than '..Said'. Prove '..Said' where nothing that the law and all that it calls make is longer than what came in: it says more and counts as full. Else prove '..UptoSaid'. A law counts once. -/
mutual
def uptoBulk {H : Type} : DataW H → Nat
  | .lit (.string bytes) => bytes.length + 1
  | .lit _ => 1
  | .nil => 1
  | .ptr d => uptoBulk d + 1
  | .slice elems spare => uptoBulkAll elems + uptoBulkAll spare + 1
  | .agg parts => uptoBulkAll parts + 1
  | .iface _ d => uptoBulk d + 1
  | .map entries => uptoBulkEntries entries + 1
  | .held _ => 1
def uptoBulkAll {H : Type} : List (DataW H) → Nat
  | [] => 0
  | d :: r => uptoBulk d + uptoBulkAll r
def uptoBulkEntries {H : Type} : List (Lit × DataW H) → Nat
  | [] => 0
  | x :: r => uptoBulkEntry x + uptoBulkEntries r
def uptoBulkEntry {H : Type} : Lit × DataW H → Nat
  | (.string bytes, d) => bytes.length + uptoBulk d + 1
  | (_, d) => uptoBulk d + 1
 end
def uptoSmall : (H : Type) → List (DataW H) → Bool := fun _ ds => decide (uptoBulkAll ds ≤ 1048576)
def OpenSpec.upto (s : _root_.Go.ChangeSpec) : _root_.Go.OpenSpec := { _root_.Go.OpenSpec.ofChange s with cond := some uptoSmall }

/-- 'posthorselaw04.NvmePlays', WHERE WHAT IT READS IS OF BULK AT MOST 1048576: true; the input reads as it did. -/
def nvmePlaysUptoRow : OpenClaim := { program := "ytofiedgnnpednaadoor", sum := "69b16cb22afc348a1f6a61f17b4ed7421865b0b5c7f77253abb4077c271eab9f", func := "posthorse/posthorselaw04.NvmePlays", spec := "nvmePlays", inPlace := ["internal/abi.NoEscape", "internal/bytealg.MakeNoZero", "internal/reflectlite.ValueOf", "(internal/reflectlite.Value).Type", "(internal/reflectlite.Value).IsNil", "internal/reflectlite.TypeOf", "(internal/reflectlite.Value).Elem", "(internal/reflectlite.Value).Set", "maps.clone"], unfollowed := true, recurses := true, named := ["errors.errorType"], apart := false, laid := [("errors.errorType", laid_errors_errorType)], narrowed := true }
def NvmePlaysUptoSaid : Prop := nvmePlaysUptoRow.holds Tryd.pinned (OpenSpec.upto nvmePlaysSpec)

/-- 'posthorselaw04.NvmeRefuses', WHERE WHAT IT READS IS OF BULK AT MOST 1048576: true; the input reads as it did. -/
def nvmeRefusesUptoRow : OpenClaim := { program := "ytofiedgnnpednaadoor", sum := "69b16cb22afc348a1f6a61f17b4ed7421865b0b5c7f77253abb4077c271eab9f", func := "posthorse/posthorselaw04.NvmeRefuses", spec := "nvmeRefuses", inPlace := ["internal/abi.NoEscape", "internal/bytealg.MakeNoZero", "internal/reflectlite.ValueOf", "(internal/reflectlite.Value).Type", "(internal/reflectlite.Value).IsNil", "internal/reflectlite.TypeOf", "(internal/reflectlite.Value).Elem", "(internal/reflectlite.Value).Set", "maps.clone"], unfollowed := true, recurses := true, named := ["errors.errorType"], apart := false, laid := [("errors.errorType", laid_errors_errorType)], narrowed := true }
def NvmeRefusesUptoSaid : Prop := nvmeRefusesUptoRow.holds Tryd.pinned (OpenSpec.upto nvmeRefusesSpec)

/-- 'posthorselaw05.DriveNil', WHERE WHAT IT READS IS OF BULK AT MOST 1048576: true; the input reads as it did. -/
def driveNilUptoRow : OpenClaim := { program := "ytofiedgnnpednaadoor", sum := "69b16cb22afc348a1f6a61f17b4ed7421865b0b5c7f77253abb4077c271eab9f", func := "posthorse/posthorselaw05.DriveNil", spec := "driveNil", inPlace := ["internal/reflectlite.TypeOf", "internal/abi.NoEscape", "internal/bytealg.MakeNoZero", "internal/reflectlite.ValueOf", "(internal/reflectlite.Value).Type", "(internal/reflectlite.Value).IsNil", "(internal/reflectlite.Value).Elem", "(internal/reflectlite.Value).Set"], unfollowed := true, recurses := true, named := ["errors.errorType"], apart := false, laid := [("errors.errorType", laid_errors_errorType)], narrowed := true }
def DriveNilUptoSaid : Prop := driveNilUptoRow.holds Tryd.pinned (OpenSpec.upto driveNilSpec)

end Rows
end Go.Proofs.YtofiedgnnpednaaDoor
