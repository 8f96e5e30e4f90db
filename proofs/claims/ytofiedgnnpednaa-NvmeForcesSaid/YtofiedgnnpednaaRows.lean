/-
  No cell of these rows narrows 'for every input' (looked for: loops, veiled, ifaces, maps, wideKeys, modest, calm, conditions, laid).
  DERIVED. THE GIVEN ROWS OF THIS SEAT. 6 by the template 'for every input the law returns true; each argument reads behind the call as it read before'; 0 by the template 'total and deterministic' (their statements: YtofiedgnnpednaaTotals.lean).
  GIVEN WITH THE SEED: the statements are not yours to turn. If you find one false, say at which input.
  Laid BY PROGRAM, IN A SANDBOX (cutbox-rows.mjs): the forced cells as the released guide's own fill.sh prints them over the translation 392f9cb3fcb4110b… (all of the seat's roots in one cut). By AI agents, Wed Nov 11 2026. No macro, syntax, notation, axiom, sorry.
-/
import Derived.Test.YtofiedgnnpednaaChecked
import GoSem.Claim
import GoSem.ClaimJoined
import GoSem.ClaimMapViews
import Derived.JoinedTies
import Derived.KernelRfl
namespace Go.Proofs.Ytofiedgnnpednaa
/- THE CELL 'sum', in the pinned program and in every row, IS THE sha256 OF THE DUMP (.gsa) THAT YtofiedgnnpednaaProg.lean LOADS. Nothing in Lean hashes anything: it is a label: what it is worth is what the hold of that sum in a sandbox is worth. -/
noncomputable def Try.pinned : Pinned := { name := "ytofiedgnnpednaa", sum := "392f9cb3fcb4110b725ef8b30508db4892b2ea8d48c71181db5c885d2eb5afdb", checked := Try.checked }
namespace Rows
def none {H : Type} : Left H := { results := [], args := [] }

/-- 'posthorselaw04.NvmeOrders': WHATEVER THE INPUT: true; the input reads as it did. -/
def nvmeOrdersSpec : ChangeSpec := { name := "nvmeOrders", fn := fun _ => fun
  | [d1, d2] => { results := [.lit (.bool true)], args := [d1, d2] }
  | _ => none }
def nvmeOrdersRow : OpenClaim := { program := "ytofiedgnnpednaa", sum := "392f9cb3fcb4110b725ef8b30508db4892b2ea8d48c71181db5c885d2eb5afdb", func := "posthorse/posthorselaw04.NvmeOrders", spec := "nvmeOrders", inPlace := ["internal/abi.NoEscape", "internal/bytealg.MakeNoZero"], unfollowed := true, recurses := true, apart := false }
def NvmeOrdersSaid : Prop := nvmeOrdersRow.holds Try.pinned (OpenSpec.ofChange nvmeOrdersSpec)

/-- ITS FALSE NEIGHBOUR: 'it returns false'. Refute it at one input. -/
def nvmeOrdersWrong : ChangeSpec := { name := "nvmeOrders", fn := fun _ => fun
  | [d1, d2] => { results := [.lit (.bool false)], args := [d1, d2] }
  | _ => none }
def NvmeOrdersWrongFalsely : Prop := nvmeOrdersRow.holds Try.pinned (OpenSpec.ofChange nvmeOrdersWrong)

/-- 'posthorselaw04.NvmeForces': WHATEVER THE INPUT: true; the input reads as it did. -/
def nvmeForcesSpec : ChangeSpec := { name := "nvmeForces", fn := fun _ => fun
  | [d1, d2, d3] => { results := [.lit (.bool true)], args := [d1, d2, d3] }
  | _ => none }
def nvmeForcesRow : OpenClaim := { program := "ytofiedgnnpednaa", sum := "392f9cb3fcb4110b725ef8b30508db4892b2ea8d48c71181db5c885d2eb5afdb", func := "posthorse/posthorselaw04.NvmeForces", spec := "nvmeForces", inPlace := ["internal/abi.NoEscape", "internal/bytealg.MakeNoZero"], unfollowed := true, recurses := true, apart := false }
def NvmeForcesSaid : Prop := nvmeForcesRow.holds Try.pinned (OpenSpec.ofChange nvmeForcesSpec)

/-- ITS FALSE NEIGHBOUR: 'it returns false'. Refute it at one input. -/
def nvmeForcesWrong : ChangeSpec := { name := "nvmeForces", fn := fun _ => fun
  | [d1, d2, d3] => { results := [.lit (.bool false)], args := [d1, d2, d3] }
  | _ => none }
def NvmeForcesWrongFalsely : Prop := nvmeForcesRow.holds Try.pinned (OpenSpec.ofChange nvmeForcesWrong)

/-- 'posthorselaw04.NvmeLasts': WHATEVER THE INPUT: true; the input reads as it did. -/
def nvmeLastsSpec : ChangeSpec := { name := "nvmeLasts", fn := fun _ => fun
  | [d1, d2, d3] => { results := [.lit (.bool true)], args := [d1, d2, d3] }
  | _ => none }
def nvmeLastsRow : OpenClaim := { program := "ytofiedgnnpednaa", sum := "392f9cb3fcb4110b725ef8b30508db4892b2ea8d48c71181db5c885d2eb5afdb", func := "posthorse/posthorselaw04.NvmeLasts", spec := "nvmeLasts", inPlace := ["internal/abi.NoEscape", "internal/bytealg.MakeNoZero"], unfollowed := true, recurses := true, apart := false }
def NvmeLastsSaid : Prop := nvmeLastsRow.holds Try.pinned (OpenSpec.ofChange nvmeLastsSpec)

/-- ITS FALSE NEIGHBOUR: 'it returns false'. Refute it at one input. -/
def nvmeLastsWrong : ChangeSpec := { name := "nvmeLasts", fn := fun _ => fun
  | [d1, d2, d3] => { results := [.lit (.bool false)], args := [d1, d2, d3] }
  | _ => none }
def NvmeLastsWrongFalsely : Prop := nvmeLastsRow.holds Try.pinned (OpenSpec.ofChange nvmeLastsWrong)

/-- 'posthorselaw05.DriveFull': WHATEVER THE INPUT: true; the input reads as it did. -/
def driveFullSpec : ChangeSpec := { name := "driveFull", fn := fun _ => fun
  | [d1, d2] => { results := [.lit (.bool true)], args := [d1, d2] }
  | _ => none }
def driveFullRow : OpenClaim := { program := "ytofiedgnnpednaa", sum := "392f9cb3fcb4110b725ef8b30508db4892b2ea8d48c71181db5c885d2eb5afdb", func := "posthorse/posthorselaw05.DriveFull", spec := "driveFull", inPlace := ["internal/reflectlite.TypeOf", "internal/abi.NoEscape", "internal/bytealg.MakeNoZero"], unfollowed := true, recurses := true, apart := false }
def DriveFullSaid : Prop := driveFullRow.holds Try.pinned (OpenSpec.ofChange driveFullSpec)

/-- ITS FALSE NEIGHBOUR: 'it returns false'. Refute it at one input. -/
def driveFullWrong : ChangeSpec := { name := "driveFull", fn := fun _ => fun
  | [d1, d2] => { results := [.lit (.bool false)], args := [d1, d2] }
  | _ => none }
def DriveFullWrongFalsely : Prop := driveFullRow.holds Try.pinned (OpenSpec.ofChange driveFullWrong)

/-- 'posthorselaw05.DriveWrites': WHATEVER THE INPUT: true; the input reads as it did. -/
def driveWritesSpec : ChangeSpec := { name := "driveWrites", fn := fun _ => fun
  | [d1, d2, d3] => { results := [.lit (.bool true)], args := [d1, d2, d3] }
  | _ => none }
def driveWritesRow : OpenClaim := { program := "ytofiedgnnpednaa", sum := "392f9cb3fcb4110b725ef8b30508db4892b2ea8d48c71181db5c885d2eb5afdb", func := "posthorse/posthorselaw05.DriveWrites", spec := "driveWrites", inPlace := ["internal/reflectlite.TypeOf", "internal/abi.NoEscape", "internal/bytealg.MakeNoZero"], unfollowed := true, recurses := true, apart := false }
def DriveWritesSaid : Prop := driveWritesRow.holds Try.pinned (OpenSpec.ofChange driveWritesSpec)

/-- ITS FALSE NEIGHBOUR: 'it returns false'. Refute it at one input. -/
def driveWritesWrong : ChangeSpec := { name := "driveWrites", fn := fun _ => fun
  | [d1, d2, d3] => { results := [.lit (.bool false)], args := [d1, d2, d3] }
  | _ => none }
def DriveWritesWrongFalsely : Prop := driveWritesRow.holds Try.pinned (OpenSpec.ofChange driveWritesWrong)

/-- 'posthorselaw05.DriveWraps': WHATEVER THE INPUT: true; the input reads as it did. -/
def driveWrapsSpec : ChangeSpec := { name := "driveWraps", fn := fun _ => fun
  | [d1, d2] => { results := [.lit (.bool true)], args := [d1, d2] }
  | _ => none }
def driveWrapsRow : OpenClaim := { program := "ytofiedgnnpednaa", sum := "392f9cb3fcb4110b725ef8b30508db4892b2ea8d48c71181db5c885d2eb5afdb", func := "posthorse/posthorselaw05.DriveWraps", spec := "driveWraps", inPlace := ["internal/reflectlite.TypeOf", "internal/abi.NoEscape", "internal/bytealg.MakeNoZero"], unfollowed := true, recurses := true, apart := false }
def DriveWrapsSaid : Prop := driveWrapsRow.holds Try.pinned (OpenSpec.ofChange driveWrapsSpec)

/-- ITS FALSE NEIGHBOUR: 'it returns false'. Refute it at one input. -/
def driveWrapsWrong : ChangeSpec := { name := "driveWraps", fn := fun _ => fun
  | [d1, d2] => { results := [.lit (.bool false)], args := [d1, d2] }
  | _ => none }
def DriveWrapsWrongFalsely : Prop := driveWrapsRow.holds Try.pinned (OpenSpec.ofChange driveWrapsWrong)

/- THE SECOND FORM. 'bulk': how many values and letters a reading holds, each counted each time it is reached (what is shared counts as often as it is met; a slice's spare places count too). A statement '..UptoSaid' is the law's where the arguments, and the package variables that the reading takes, are together of bulk at most 1048576: NARROWER than '..Said'. Prove '..Said' where nothing that the law and all that it calls make is longer than what came in: it says more and counts as full. Else prove '..UptoSaid'. A law counts once. -/
mutual
def uptoBulk {H : Type} : DataW H → Nat
  | .lit (.string bytes) => bytes.length + 1
  | .lit _ => 1
  | .nil => 1
  | .ptr d => uptoBulk d + 1
  | .slice elems spare => uptoBulkAll elems + uptoBulkAll spare + 1
  | .agg parts => uptoBulkAll parts + 1
  | .iface _ d => uptoBulk d + 1
  | .map entries => uptoBulkEntries entries + 1
  | .held _ => 1
def uptoBulkAll {H : Type} : List (DataW H) → Nat
  | [] => 0
  | d :: r => uptoBulk d + uptoBulkAll r
def uptoBulkEntries {H : Type} : List (Lit × DataW H) → Nat
  | [] => 0
  | x :: r => uptoBulkEntry x + uptoBulkEntries r
def uptoBulkEntry {H : Type} : Lit × DataW H → Nat
  | (.string bytes, d) => bytes.length + uptoBulk d + 1
  | (_, d) => uptoBulk d + 1
 end
def uptoSmall : (H : Type) → List (DataW H) → Bool := fun _ ds => decide (uptoBulkAll ds ≤ 1048576)
def OpenSpec.upto (s : _root_.Go.ChangeSpec) : _root_.Go.OpenSpec := { _root_.Go.OpenSpec.ofChange s with cond := some uptoSmall }

/-- 'posthorselaw04.NvmeOrders', WHERE WHAT IT READS IS OF BULK AT MOST 1048576: true; the input reads as it did. -/
def nvmeOrdersUptoRow : OpenClaim := { program := "ytofiedgnnpednaa", sum := "392f9cb3fcb4110b725ef8b30508db4892b2ea8d48c71181db5c885d2eb5afdb", func := "posthorse/posthorselaw04.NvmeOrders", spec := "nvmeOrders", inPlace := ["internal/abi.NoEscape", "internal/bytealg.MakeNoZero"], unfollowed := true, recurses := true, apart := false, narrowed := true }
def NvmeOrdersUptoSaid : Prop := nvmeOrdersUptoRow.holds Try.pinned (OpenSpec.upto nvmeOrdersSpec)

/-- 'posthorselaw04.NvmeForces', WHERE WHAT IT READS IS OF BULK AT MOST 1048576: true; the input reads as it did. -/
def nvmeForcesUptoRow : OpenClaim := { program := "ytofiedgnnpednaa", sum := "392f9cb3fcb4110b725ef8b30508db4892b2ea8d48c71181db5c885d2eb5afdb", func := "posthorse/posthorselaw04.NvmeForces", spec := "nvmeForces", inPlace := ["internal/abi.NoEscape", "internal/bytealg.MakeNoZero"], unfollowed := true, recurses := true, apart := false, narrowed := true }
def NvmeForcesUptoSaid : Prop := nvmeForcesUptoRow.holds Try.pinned (OpenSpec.upto nvmeForcesSpec)

/-- 'posthorselaw04.NvmeLasts', WHERE WHAT IT READS IS OF BULK AT MOST 1048576: true; the input reads as it did. -/
def nvmeLastsUptoRow : OpenClaim := { program := "ytofiedgnnpednaa", sum := "392f9cb3fcb4110b725ef8b30508db4892b2ea8d48c71181db5c885d2eb5afdb", func := "posthorse/posthorselaw04.NvmeLasts", spec := "nvmeLasts", inPlace := ["internal/abi.NoEscape", "internal/bytealg.MakeNoZero"], unfollowed := true, recurses := true, apart := false, narrowed := true }
def NvmeLastsUptoSaid : Prop := nvmeLastsUptoRow.holds Try.pinned (OpenSpec.upto nvmeLastsSpec)

/-- 'posthorselaw05.DriveFull', WHERE WHAT IT READS IS OF BULK AT MOST 1048576: true; the input reads as it did. -/
def driveFullUptoRow : OpenClaim := { program := "ytofiedgnnpednaa", sum := "392f9cb3fcb4110b725ef8b30508db4892b2ea8d48c71181db5c885d2eb5afdb", func := "posthorse/posthorselaw05.DriveFull", spec := "driveFull", inPlace := ["internal/reflectlite.TypeOf", "internal/abi.NoEscape", "internal/bytealg.MakeNoZero"], unfollowed := true, recurses := true, apart := false, narrowed := true }
def DriveFullUptoSaid : Prop := driveFullUptoRow.holds Try.pinned (OpenSpec.upto driveFullSpec)

/-- 'posthorselaw05.DriveWrites', WHERE WHAT IT READS IS OF BULK AT MOST 1048576: true; the input reads as it did. -/
def driveWritesUptoRow : OpenClaim := { program := "ytofiedgnnpednaa", sum := "392f9cb3fcb4110b725ef8b30508db4892b2ea8d48c71181db5c885d2eb5afdb", func := "posthorse/posthorselaw05.DriveWrites", spec := "driveWrites", inPlace := ["internal/reflectlite.TypeOf", "internal/abi.NoEscape", "internal/bytealg.MakeNoZero"], unfollowed := true, recurses := true, apart := false, narrowed := true }
def DriveWritesUptoSaid : Prop := driveWritesUptoRow.holds Try.pinned (OpenSpec.upto driveWritesSpec)

/-- 'posthorselaw05.DriveWraps', WHERE WHAT IT READS IS OF BULK AT MOST 1048576: true; the input reads as it did. -/
def driveWrapsUptoRow : OpenClaim := { program := "ytofiedgnnpednaa", sum := "392f9cb3fcb4110b725ef8b30508db4892b2ea8d48c71181db5c885d2eb5afdb", func := "posthorse/posthorselaw05.DriveWraps", spec := "driveWraps", inPlace := ["internal/reflectlite.TypeOf", "internal/abi.NoEscape", "internal/bytealg.MakeNoZero"], unfollowed := true, recurses := true, apart := false, narrowed := true }
def DriveWrapsUptoSaid : Prop := driveWrapsUptoRow.holds Try.pinned (OpenSpec.upto driveWrapsSpec)

end Rows
end Go.Proofs.Ytofiedgnnpednaa
