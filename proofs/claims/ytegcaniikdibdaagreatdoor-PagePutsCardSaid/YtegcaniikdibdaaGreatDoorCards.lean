/-
  DERIVED. GIVEN WITH THE SEED: THE CARDS: each row of YtegcaniikdibdaaGreatDoorRows.lean that lists a variable, with what it lists TIED to the program's text (the seventh form; the later family's looks); each row that meets fmt, with fmt's text TOLD by the authors' own Lean function (tested against real Go, not proved from fmt's source: count such statements apart). THE CARD IS WHAT COUNTS. Prove the row's statement (the work); the ties are given (YtegcaniikdibdaaGreatDoorTie.lean); close each card by the builder's one call (the guide's Derived/Test/ToyasCard.lean, 'card_holds'). Laid BY PROGRAM, IN A SANDBOX (cutbox-door.mjs). By AI agents, Wed Nov 11 2026. No macro, syntax, notation, axiom, sorry.
-/
import Derived.Test.YtegcaniikdibdaaGreatDoorRows
import GoSem.ClaimSeven
namespace Go.Proofs.YtegcaniikdibdaaGreatDoor
namespace Rows

/-- THE TIED CARD OF 'posthorselaw11.PagePuts'. -/
def pagePutsCard : Claim7 := { stood := { row := pagePutsRow, standIns := [], harness := (true, "4f6bc02624afe98beb8268b5caba4210614f815ffe79d2857cfa08a9e8a8ab98"), looks := true }, kinds := [], alts := [], laidByText := true, laidKinds := [.data, .handle, .data, .pinned], laidTests := true, laidLooks := .later }
def PagePutsCardSaid : Prop := Claim7.holds Tryz.pinned (.plain (OpenSpec.ofChange pagePutsSpec)) pagePutsCard

/-- THE SECOND FORM's CARD OF 'posthorselaw11.PagePuts'. -/
def pagePutsUptoCard : Claim7 := { stood := { row := pagePutsUptoRow, standIns := [], harness := (true, "4f6bc02624afe98beb8268b5caba4210614f815ffe79d2857cfa08a9e8a8ab98"), looks := true }, kinds := [], alts := [], laidByText := true, laidKinds := [.data, .handle, .data, .pinned], laidTests := true, laidLooks := .later }
def PagePutsUptoCardSaid : Prop := Claim7.holds Tryz.pinned (.plain (OpenSpec.upto pagePutsSpec)) pagePutsUptoCard
end Rows
end Go.Proofs.YtegcaniikdibdaaGreatDoor
