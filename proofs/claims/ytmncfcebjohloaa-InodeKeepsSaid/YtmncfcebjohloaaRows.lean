/-
  No cell of these rows narrows 'for every input' (looked for: loops, veiled, ifaces, maps, wideKeys, modest, calm, conditions, laid).
  DERIVED. THE GIVEN ROWS OF THIS SEAT. 5 by the template 'for every input the law returns true; each argument reads behind the call as it read before'; 0 by the template 'total and deterministic' (their statements: YtmncfcebjohloaaTotals.lean).
  GIVEN WITH THE SEED: the statements are not yours to turn. If you find one false, say at which input.
  Laid BY PROGRAM, IN A SANDBOX (cutbox-rows.mjs): the forced cells as the released guide's own fill.sh prints them over the translation f523528d5895bad5… (all of the seat's roots in one cut). By AI agents, Wed Nov 11 2026. No macro, syntax, notation, axiom, sorry.
-/
import Derived.Test.YtmncfcebjohloaaChecked
import GoSem.Claim
import GoSem.ClaimJoined
import GoSem.ClaimMapViews
import Derived.JoinedTies
import Derived.KernelRfl
namespace Go.Proofs.Ytmncfcebjohloaa
/- THE CELL 'sum', in the pinned program and in every row, IS THE sha256 OF THE DUMP (.gsa) THAT YtmncfcebjohloaaProg.lean LOADS. Nothing in Lean hashes anything: it is a label: what it is worth is what the hold of that sum in a sandbox is worth. -/
noncomputable def Try.pinned : Pinned := { name := "ytmncfcebjohloaa", sum := "f523528d5895bad59dd562b1946e331ab02e13550d8195d84ecfa878392348cf", checked := Try.checked }
namespace Rows
def none {H : Type} : Left H := { results := [], args := [] }

/-- 'posthorselaw08.InodeMaps': WHATEVER THE INPUT: true; the input reads as it did. -/
def inodeMapsSpec : ChangeSpec := { name := "inodeMaps", fn := fun _ => fun
  | [d1, d2, d3] => { results := [.lit (.bool true)], args := [d1, d2, d3] }
  | _ => none }
def inodeMapsRow : OpenClaim := { program := "ytmncfcebjohloaa", sum := "f523528d5895bad59dd562b1946e331ab02e13550d8195d84ecfa878392348cf", func := "posthorse/posthorselaw08.InodeMaps", spec := "inodeMaps", unfollowed := true, recurses := true, apart := false }
def InodeMapsSaid : Prop := inodeMapsRow.holds Try.pinned (OpenSpec.ofChange inodeMapsSpec)

/-- ITS FALSE NEIGHBOUR: 'it returns false'. Refute it at one input. -/
def inodeMapsWrong : ChangeSpec := { name := "inodeMaps", fn := fun _ => fun
  | [d1, d2, d3] => { results := [.lit (.bool false)], args := [d1, d2, d3] }
  | _ => none }
def InodeMapsWrongFalsely : Prop := inodeMapsRow.holds Try.pinned (OpenSpec.ofChange inodeMapsWrong)

/-- 'posthorselaw08.InodeKeeps': WHATEVER THE INPUT: true; the input reads as it did. -/
def inodeKeepsSpec : ChangeSpec := { name := "inodeKeeps", fn := fun _ => fun
  | [d1, d2, d3] => { results := [.lit (.bool true)], args := [d1, d2, d3] }
  | _ => none }
def inodeKeepsRow : OpenClaim := { program := "ytmncfcebjohloaa", sum := "f523528d5895bad59dd562b1946e331ab02e13550d8195d84ecfa878392348cf", func := "posthorse/posthorselaw08.InodeKeeps", spec := "inodeKeeps", unfollowed := true, recurses := true, apart := false }
def InodeKeepsSaid : Prop := inodeKeepsRow.holds Try.pinned (OpenSpec.ofChange inodeKeepsSpec)

/-- ITS FALSE NEIGHBOUR: 'it returns false'. Refute it at one input. -/
def inodeKeepsWrong : ChangeSpec := { name := "inodeKeeps", fn := fun _ => fun
  | [d1, d2, d3] => { results := [.lit (.bool false)], args := [d1, d2, d3] }
  | _ => none }
def InodeKeepsWrongFalsely : Prop := inodeKeepsRow.holds Try.pinned (OpenSpec.ofChange inodeKeepsWrong)

/-- 'posthorselaw12.LookScans': WHATEVER THE INPUT: true; the input reads as it did. -/
def lookScansSpec : ChangeSpec := { name := "lookScans", fn := fun _ => fun
  | [d1, d2, d3] => { results := [.lit (.bool true)], args := [d1, d2, d3] }
  | _ => none }
def lookScansRow : OpenClaim := { program := "ytmncfcebjohloaa", sum := "f523528d5895bad59dd562b1946e331ab02e13550d8195d84ecfa878392348cf", func := "posthorse/posthorselaw12.LookScans", spec := "lookScans", unfollowed := true, recurses := true, apart := false }
def LookScansSaid : Prop := lookScansRow.holds Try.pinned (OpenSpec.ofChange lookScansSpec)

/-- ITS FALSE NEIGHBOUR: 'it returns false'. Refute it at one input. -/
def lookScansWrong : ChangeSpec := { name := "lookScans", fn := fun _ => fun
  | [d1, d2, d3] => { results := [.lit (.bool false)], args := [d1, d2, d3] }
  | _ => none }
def LookScansWrongFalsely : Prop := lookScansRow.holds Try.pinned (OpenSpec.ofChange lookScansWrong)

/-- 'posthorselaw12.LookTrees': WHATEVER THE INPUT: true; the input reads as it did. -/
def lookTreesSpec : ChangeSpec := { name := "lookTrees", fn := fun _ => fun
  | [d1, d2] => { results := [.lit (.bool true)], args := [d1, d2] }
  | _ => none }
def lookTreesRow : OpenClaim := { program := "ytmncfcebjohloaa", sum := "f523528d5895bad59dd562b1946e331ab02e13550d8195d84ecfa878392348cf", func := "posthorse/posthorselaw12.LookTrees", spec := "lookTrees", unfollowed := true, recurses := true, apart := false }
def LookTreesSaid : Prop := lookTreesRow.holds Try.pinned (OpenSpec.ofChange lookTreesSpec)

/-- ITS FALSE NEIGHBOUR: 'it returns false'. Refute it at one input. -/
def lookTreesWrong : ChangeSpec := { name := "lookTrees", fn := fun _ => fun
  | [d1, d2] => { results := [.lit (.bool false)], args := [d1, d2] }
  | _ => none }
def LookTreesWrongFalsely : Prop := lookTreesRow.holds Try.pinned (OpenSpec.ofChange lookTreesWrong)

/-- 'posthorselaw12.LookBent': WHATEVER THE INPUT: true; the input reads as it did. -/
def lookBentSpec : ChangeSpec := { name := "lookBent", fn := fun _ => fun
  | [d1, d2, d3] => { results := [.lit (.bool true)], args := [d1, d2, d3] }
  | _ => none }
def lookBentRow : OpenClaim := { program := "ytmncfcebjohloaa", sum := "f523528d5895bad59dd562b1946e331ab02e13550d8195d84ecfa878392348cf", func := "posthorse/posthorselaw12.LookBent", spec := "lookBent", unfollowed := true, recurses := true, apart := false }
def LookBentSaid : Prop := lookBentRow.holds Try.pinned (OpenSpec.ofChange lookBentSpec)

/-- ITS FALSE NEIGHBOUR: 'it returns false'. Refute it at one input. -/
def lookBentWrong : ChangeSpec := { name := "lookBent", fn := fun _ => fun
  | [d1, d2, d3] => { results := [.lit (.bool false)], args := [d1, d2, d3] }
  | _ => none }
def LookBentWrongFalsely : Prop := lookBentRow.holds Try.pinned (OpenSpec.ofChange lookBentWrong)

/- THE SECOND FORM. 'bulk': how many values and letters a reading holds, each counted each time it is reached (what is shared counts as often as it is met; a slice's spare places count too). A statement '..UptoSaid' is the law's where the arguments, and the package variables that the reading takes, are together of bulk at most 1048576: NARROWER than '..Said'. Prove '..Said' where nothing that the law and all that it calls make is longer than what came in: it says more and counts as full. Else prove '..UptoSaid'. A law counts once. -/
mutual
def uptoBulk {H : Type} : DataW H → Nat
  | .lit (.string bytes) => bytes.length + 1
  | .lit _ => 1
  | .nil => 1
  | .ptr d => uptoBulk d + 1
  | .slice elems spare => uptoBulkAll elems + uptoBulkAll spare + 1
  | .agg parts => uptoBulkAll parts + 1
  | .iface _ d => uptoBulk d + 1
  | .map entries => uptoBulkEntries entries + 1
  | .held _ => 1
def uptoBulkAll {H : Type} : List (DataW H) → Nat
  | [] => 0
  | d :: r => uptoBulk d + uptoBulkAll r
def uptoBulkEntries {H : Type} : List (Lit × DataW H) → Nat
  | [] => 0
  | x :: r => uptoBulkEntry x + uptoBulkEntries r
def uptoBulkEntry {H : Type} : Lit × DataW H → Nat
  | (.string bytes, d) => bytes.length + uptoBulk d + 1
  | (_, d) => uptoBulk d + 1
 end
def uptoSmall : (H : Type) → List (DataW H) → Bool := fun _ ds => decide (uptoBulkAll ds ≤ 1048576)
def OpenSpec.upto (s : _root_.Go.ChangeSpec) : _root_.Go.OpenSpec := { _root_.Go.OpenSpec.ofChange s with cond := some uptoSmall }

/-- 'posthorselaw08.InodeMaps', WHERE WHAT IT READS IS OF BULK AT MOST 1048576: true; the input reads as it did. -/
def inodeMapsUptoRow : OpenClaim := { program := "ytmncfcebjohloaa", sum := "f523528d5895bad59dd562b1946e331ab02e13550d8195d84ecfa878392348cf", func := "posthorse/posthorselaw08.InodeMaps", spec := "inodeMaps", unfollowed := true, recurses := true, apart := false, narrowed := true }
def InodeMapsUptoSaid : Prop := inodeMapsUptoRow.holds Try.pinned (OpenSpec.upto inodeMapsSpec)

/-- 'posthorselaw08.InodeKeeps', WHERE WHAT IT READS IS OF BULK AT MOST 1048576: true; the input reads as it did. -/
def inodeKeepsUptoRow : OpenClaim := { program := "ytmncfcebjohloaa", sum := "f523528d5895bad59dd562b1946e331ab02e13550d8195d84ecfa878392348cf", func := "posthorse/posthorselaw08.InodeKeeps", spec := "inodeKeeps", unfollowed := true, recurses := true, apart := false, narrowed := true }
def InodeKeepsUptoSaid : Prop := inodeKeepsUptoRow.holds Try.pinned (OpenSpec.upto inodeKeepsSpec)

/-- 'posthorselaw12.LookScans', WHERE WHAT IT READS IS OF BULK AT MOST 1048576: true; the input reads as it did. -/
def lookScansUptoRow : OpenClaim := { program := "ytmncfcebjohloaa", sum := "f523528d5895bad59dd562b1946e331ab02e13550d8195d84ecfa878392348cf", func := "posthorse/posthorselaw12.LookScans", spec := "lookScans", unfollowed := true, recurses := true, apart := false, narrowed := true }
def LookScansUptoSaid : Prop := lookScansUptoRow.holds Try.pinned (OpenSpec.upto lookScansSpec)

/-- 'posthorselaw12.LookTrees', WHERE WHAT IT READS IS OF BULK AT MOST 1048576: true; the input reads as it did. -/
def lookTreesUptoRow : OpenClaim := { program := "ytmncfcebjohloaa", sum := "f523528d5895bad59dd562b1946e331ab02e13550d8195d84ecfa878392348cf", func := "posthorse/posthorselaw12.LookTrees", spec := "lookTrees", unfollowed := true, recurses := true, apart := false, narrowed := true }
def LookTreesUptoSaid : Prop := lookTreesUptoRow.holds Try.pinned (OpenSpec.upto lookTreesSpec)

/-- 'posthorselaw12.LookBent', WHERE WHAT IT READS IS OF BULK AT MOST 1048576: true; the input reads as it did. -/
def lookBentUptoRow : OpenClaim := { program := "ytmncfcebjohloaa", sum := "f523528d5895bad59dd562b1946e331ab02e13550d8195d84ecfa878392348cf", func := "posthorse/posthorselaw12.LookBent", spec := "lookBent", unfollowed := true, recurses := true, apart := false, narrowed := true }
def LookBentUptoSaid : Prop := lookBentUptoRow.holds Try.pinned (OpenSpec.upto lookBentSpec)

end Rows
end Go.Proofs.Ytmncfcebjohloaa
