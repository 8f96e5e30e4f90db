/-
  DERIVED. GIVEN WITH THE SEED: THE CARDS: each row of YtmncfcebjohloaaGreatDoorRows.lean that lists a variable, with what it lists TIED to the program's text (the seventh form; the later family's looks); each row that meets fmt, with fmt's text TOLD by the authors' own Lean function (tested against real Go, not proved from fmt's source: count such statements apart). THE CARD IS WHAT COUNTS. Prove the row's statement (the work); the ties are given (YtmncfcebjohloaaGreatDoorTie.lean); close each card by the builder's one call (the guide's Derived/Test/ToyasCard.lean, 'card_holds'). Laid BY PROGRAM, IN A SANDBOX (cutbox-door.mjs). By AI agents, Wed Nov 11 2026. No macro, syntax, notation, axiom, sorry.
-/
import Derived.Test.YtmncfcebjohloaaGreatDoorRows
import GoSem.ClaimSeven
namespace Go.Proofs.YtmncfcebjohloaaGreatDoor
namespace Rows

/-- THE TIED CARD OF 'posthorselaw08.InodePuts'. -/
def inodePutsCard : Claim7 := { stood := { row := inodePutsRow, standIns := [], harness := (true, "85cac74f18934cddf7644dcf507bea4d3486dd4645eae58c8e494fb57e73a609"), looks := true }, kinds := [], alts := [], laidByText := true, laidKinds := [.data, .handle, .data, .pinned], laidTests := true, laidLooks := .later }
def InodePutsCardSaid : Prop := Claim7.holds Tryz.pinned (.plain (OpenSpec.ofChange inodePutsSpec)) inodePutsCard

/-- THE TIED CARD OF 'posthorselaw08.InodeGets'. -/
def inodeGetsCard : Claim7 := { stood := { row := inodeGetsRow, standIns := [], harness := (true, "85cac74f18934cddf7644dcf507bea4d3486dd4645eae58c8e494fb57e73a609"), looks := true }, kinds := [], alts := [], laidByText := true, laidKinds := [.data, .handle, .data, .pinned], laidTests := true, laidLooks := .later }
def InodeGetsCardSaid : Prop := Claim7.holds Tryz.pinned (.plain (OpenSpec.ofChange inodeGetsSpec)) inodeGetsCard

/-- THE SECOND FORM's CARD OF 'posthorselaw08.InodePuts'. -/
def inodePutsUptoCard : Claim7 := { stood := { row := inodePutsUptoRow, standIns := [], harness := (true, "85cac74f18934cddf7644dcf507bea4d3486dd4645eae58c8e494fb57e73a609"), looks := true }, kinds := [], alts := [], laidByText := true, laidKinds := [.data, .handle, .data, .pinned], laidTests := true, laidLooks := .later }
def InodePutsUptoCardSaid : Prop := Claim7.holds Tryz.pinned (.plain (OpenSpec.upto inodePutsSpec)) inodePutsUptoCard

/-- THE SECOND FORM's CARD OF 'posthorselaw08.InodeGets'. -/
def inodeGetsUptoCard : Claim7 := { stood := { row := inodeGetsUptoRow, standIns := [], harness := (true, "85cac74f18934cddf7644dcf507bea4d3486dd4645eae58c8e494fb57e73a609"), looks := true }, kinds := [], alts := [], laidByText := true, laidKinds := [.data, .handle, .data, .pinned], laidTests := true, laidLooks := .later }
def InodeGetsUptoCardSaid : Prop := Claim7.holds Tryz.pinned (.plain (OpenSpec.upto inodeGetsSpec)) inodeGetsUptoCard
end Rows
end Go.Proofs.YtmncfcebjohloaaGreatDoor
