/-
  DERIVED. GIVEN WITH THE SEED: THE CARDS: each row of YtmncfcebjohloaaDoorRows.lean that lists a variable, with what it lists TIED to the program's text (the seventh form; the later family's looks); each row that meets fmt, with fmt's text TOLD by the authors' own Lean function (tested against real Go, not proved from fmt's source: count such statements apart). THE CARD IS WHAT COUNTS. Prove the row's statement (the work); the ties are given (YtmncfcebjohloaaDoorTie.lean); close each card by the builder's one call (the guide's Derived/Test/ToyasCard.lean, 'card_holds'). Laid BY PROGRAM, IN A SANDBOX (cutbox-door.mjs). By AI agents, Wed Nov 11 2026. No macro, syntax, notation, axiom, sorry.
-/
import Derived.Test.YtmncfcebjohloaaDoorRows
import GoSem.ClaimSeven
namespace Go.Proofs.YtmncfcebjohloaaDoor
namespace Rows

/-- THE TIED CARD OF 'posthorselaw08.InodePlays'. -/
def inodePlaysCard : Claim7 := { stood := { row := inodePlaysRow, standIns := [], harness := (true, "b65164e513d907777bd74d57c449c81ed40c259ac80d3279396c2ee9d17b94a3"), looks := true }, kinds := [], alts := [], laidByText := true, laidKinds := [.handle], laidTests := true, laidLooks := .later }
def InodePlaysCardSaid : Prop := Claim7.holds Tryd.pinned (.plain (OpenSpec.ofChange inodePlaysSpec)) inodePlaysCard

/-- THE TIED CARD OF 'posthorselaw12.LookGets'. -/
def lookGetsCard : Claim7 := { stood := { row := lookGetsRow, standIns := [], harness := (true, "b65164e513d907777bd74d57c449c81ed40c259ac80d3279396c2ee9d17b94a3"), looks := true }, kinds := [], alts := [], laidByText := true, laidKinds := [.handle], laidTests := true, laidLooks := .later }
def LookGetsCardSaid : Prop := Claim7.holds Tryd.pinned (.plain (OpenSpec.ofChange lookGetsSpec)) lookGetsCard

/-- THE TIED CARD OF 'posthorselaw12.LookBound'. -/
def lookBoundCard : Claim7 := { stood := { row := lookBoundRow, standIns := [], harness := (true, "b65164e513d907777bd74d57c449c81ed40c259ac80d3279396c2ee9d17b94a3"), looks := true }, kinds := [], alts := [], laidByText := true, laidKinds := [.handle], laidTests := true, laidLooks := .later }
def LookBoundCardSaid : Prop := Claim7.holds Tryd.pinned (.plain (OpenSpec.ofChange lookBoundSpec)) lookBoundCard

/-- THE SECOND FORM's CARD OF 'posthorselaw08.InodePlays'. -/
def inodePlaysUptoCard : Claim7 := { stood := { row := inodePlaysUptoRow, standIns := [], harness := (true, "b65164e513d907777bd74d57c449c81ed40c259ac80d3279396c2ee9d17b94a3"), looks := true }, kinds := [], alts := [], laidByText := true, laidKinds := [.handle], laidTests := true, laidLooks := .later }
def InodePlaysUptoCardSaid : Prop := Claim7.holds Tryd.pinned (.plain (OpenSpec.upto inodePlaysSpec)) inodePlaysUptoCard

/-- THE SECOND FORM's CARD OF 'posthorselaw12.LookGets'. -/
def lookGetsUptoCard : Claim7 := { stood := { row := lookGetsUptoRow, standIns := [], harness := (true, "b65164e513d907777bd74d57c449c81ed40c259ac80d3279396c2ee9d17b94a3"), looks := true }, kinds := [], alts := [], laidByText := true, laidKinds := [.handle], laidTests := true, laidLooks := .later }
def LookGetsUptoCardSaid : Prop := Claim7.holds Tryd.pinned (.plain (OpenSpec.upto lookGetsSpec)) lookGetsUptoCard

/-- THE SECOND FORM's CARD OF 'posthorselaw12.LookBound'. -/
def lookBoundUptoCard : Claim7 := { stood := { row := lookBoundUptoRow, standIns := [], harness := (true, "b65164e513d907777bd74d57c449c81ed40c259ac80d3279396c2ee9d17b94a3"), looks := true }, kinds := [], alts := [], laidByText := true, laidKinds := [.handle], laidTests := true, laidLooks := .later }
def LookBoundUptoCardSaid : Prop := Claim7.holds Tryd.pinned (.plain (OpenSpec.upto lookBoundSpec)) lookBoundUptoCard
end Rows
end Go.Proofs.YtmncfcebjohloaaDoor
