/-
  DERIVED. GIVEN WITH THE SEED: THE CARDS: each row of YtekjkbocblonmaaDoorRows.lean that lists a variable, with what it lists TIED to the program's text (the seventh form; the later family's looks); each row that meets fmt, with fmt's text TOLD by the authors' own Lean function (tested against real Go, not proved from fmt's source: count such statements apart). THE CARD IS WHAT COUNTS. Prove the row's statement (the work); the ties are given (YtekjkbocblonmaaDoorTie.lean); close each card by the builder's one call (the guide's Derived/Test/ToyasCard.lean, 'card_holds'). Laid BY PROGRAM, IN A SANDBOX (cutbox-door.mjs). By AI agents, Wed Nov 11 2026. No macro, syntax, notation, axiom, sorry.
-/
import Derived.Test.YtekjkbocblonmaaDoorRows
import GoSem.ClaimSeven
namespace Go.Proofs.YtekjkbocblonmaaDoor
namespace Rows

/-- THE TIED CARD OF 'posthorselaw09.SuperApart'. -/
def superApartCard : Claim7 := { stood := { row := superApartRow, standIns := [], harness := (true, "09af00f8ac3a55a45627fe912e52743da1def320c14ecbaa6b671b1feae59b27"), looks := true }, kinds := [], alts := [], laidByText := true, laidKinds := [.data], laidTests := true, laidLooks := .later }
def SuperApartCardSaid : Prop := Claim7.holds Tryd.pinned (.plain (OpenSpec.ofChange superApartSpec)) superApartCard

/-- THE TIED CARD OF 'posthorselaw17.CodePuts'. -/
def codePutsCard : Claim7 := { stood := { row := codePutsRow, standIns := [], harness := (true, "09af00f8ac3a55a45627fe912e52743da1def320c14ecbaa6b671b1feae59b27"), looks := true }, kinds := [], alts := [], laidByText := true, laidKinds := [.handle], laidTests := true, laidLooks := .later }
def CodePutsCardSaid : Prop := Claim7.holds Tryd.pinned (.plain (OpenSpec.ofChange codePutsSpec)) codePutsCard

/-- THE TIED CARD OF 'posthorselaw17.CodeGets'. -/
def codeGetsCard : Claim7 := { stood := { row := codeGetsRow, standIns := [], harness := (true, "09af00f8ac3a55a45627fe912e52743da1def320c14ecbaa6b671b1feae59b27"), looks := true }, kinds := [], alts := [], laidByText := true, laidKinds := [.handle], laidTests := true, laidLooks := .later }
def CodeGetsCardSaid : Prop := Claim7.holds Tryd.pinned (.plain (OpenSpec.ofChange codeGetsSpec)) codeGetsCard

/-- THE TIED CARD OF 'posthorselaw09.SuperGets'. -/
def superGetsCard : Claim7 := { stood := { row := superGetsRow, standIns := [], harness := (true, "09af00f8ac3a55a45627fe912e52743da1def320c14ecbaa6b671b1feae59b27"), looks := true }, kinds := [], alts := [], laidByText := true, laidKinds := [.data, .handle, .data, .pinned], laidTests := true, laidLooks := .later }
def SuperGetsCardSaid : Prop := Claim7.holds Tryd.pinned (.plain (OpenSpec.ofChange superGetsSpec)) superGetsCard

/-- THE TIED CARD OF 'posthorselaw09.SuperPuts'. -/
def superPutsCard : Claim7 := { stood := { row := superPutsRow, standIns := [], harness := (true, "09af00f8ac3a55a45627fe912e52743da1def320c14ecbaa6b671b1feae59b27"), looks := true }, kinds := [], alts := [], laidByText := true, laidKinds := [.data, .handle, .data, .pinned], laidTests := true, laidLooks := .later }
def SuperPutsCardSaid : Prop := Claim7.holds Tryd.pinned (.plain (OpenSpec.ofChange superPutsSpec)) superPutsCard

/-- THE SECOND FORM's CARD OF 'posthorselaw09.SuperApart'. -/
def superApartUptoCard : Claim7 := { stood := { row := superApartUptoRow, standIns := [], harness := (true, "09af00f8ac3a55a45627fe912e52743da1def320c14ecbaa6b671b1feae59b27"), looks := true }, kinds := [], alts := [], laidByText := true, laidKinds := [.data], laidTests := true, laidLooks := .later }
def SuperApartUptoCardSaid : Prop := Claim7.holds Tryd.pinned (.plain (OpenSpec.upto superApartSpec)) superApartUptoCard

/-- THE SECOND FORM's CARD OF 'posthorselaw17.CodePuts'. -/
def codePutsUptoCard : Claim7 := { stood := { row := codePutsUptoRow, standIns := [], harness := (true, "09af00f8ac3a55a45627fe912e52743da1def320c14ecbaa6b671b1feae59b27"), looks := true }, kinds := [], alts := [], laidByText := true, laidKinds := [.handle], laidTests := true, laidLooks := .later }
def CodePutsUptoCardSaid : Prop := Claim7.holds Tryd.pinned (.plain (OpenSpec.upto codePutsSpec)) codePutsUptoCard

/-- THE SECOND FORM's CARD OF 'posthorselaw17.CodeGets'. -/
def codeGetsUptoCard : Claim7 := { stood := { row := codeGetsUptoRow, standIns := [], harness := (true, "09af00f8ac3a55a45627fe912e52743da1def320c14ecbaa6b671b1feae59b27"), looks := true }, kinds := [], alts := [], laidByText := true, laidKinds := [.handle], laidTests := true, laidLooks := .later }
def CodeGetsUptoCardSaid : Prop := Claim7.holds Tryd.pinned (.plain (OpenSpec.upto codeGetsSpec)) codeGetsUptoCard

/-- THE SECOND FORM's CARD OF 'posthorselaw09.SuperGets'. -/
def superGetsUptoCard : Claim7 := { stood := { row := superGetsUptoRow, standIns := [], harness := (true, "09af00f8ac3a55a45627fe912e52743da1def320c14ecbaa6b671b1feae59b27"), looks := true }, kinds := [], alts := [], laidByText := true, laidKinds := [.data, .handle, .data, .pinned], laidTests := true, laidLooks := .later }
def SuperGetsUptoCardSaid : Prop := Claim7.holds Tryd.pinned (.plain (OpenSpec.upto superGetsSpec)) superGetsUptoCard

/-- THE SECOND FORM's CARD OF 'posthorselaw09.SuperPuts'. -/
def superPutsUptoCard : Claim7 := { stood := { row := superPutsUptoRow, standIns := [], harness := (true, "09af00f8ac3a55a45627fe912e52743da1def320c14ecbaa6b671b1feae59b27"), looks := true }, kinds := [], alts := [], laidByText := true, laidKinds := [.data, .handle, .data, .pinned], laidTests := true, laidLooks := .later }
def SuperPutsUptoCardSaid : Prop := Claim7.holds Tryd.pinned (.plain (OpenSpec.upto superPutsSpec)) superPutsUptoCard
end Rows
end Go.Proofs.YtekjkbocblonmaaDoor
