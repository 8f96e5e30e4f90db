/-
  DERIVED. GIVEN WITH THE SEED: THE CARDS: each row of YtofiedgnnpednaaDoorRows.lean that lists a variable, with what it lists TIED to the program's text (the seventh form; the later family's looks); each row that meets fmt, with fmt's text TOLD by the authors' own Lean function (tested against real Go, not proved from fmt's source: count such statements apart). THE CARD IS WHAT COUNTS. Prove the row's statement (the work); the ties are given (YtofiedgnnpednaaDoorTie.lean); close each card by the builder's one call (the guide's Derived/Test/ToyasCard.lean, 'card_holds'). Laid BY PROGRAM, IN A SANDBOX (cutbox-door.mjs). By AI agents, Wed Nov 11 2026. No macro, syntax, notation, axiom, sorry.
-/
import Derived.Test.YtofiedgnnpednaaDoorRows
import GoSem.ClaimSeven
namespace Go.Proofs.YtofiedgnnpednaaDoor
namespace Rows

/-- THE TIED CARD OF 'posthorselaw04.NvmePlays'. -/
def nvmePlaysCard : Claim7 := { stood := { row := nvmePlaysRow, standIns := [], harness := (true, "d300a46d850c5e6e3abf8638b47a30bf1a23e9f6a11fa499991c9566fb0545d4"), looks := true }, kinds := [], alts := [], laidByText := true, laidKinds := [.handle], laidTests := true, laidLooks := .later }
def NvmePlaysCardSaid : Prop := Claim7.holds Tryd.pinned (.plain (OpenSpec.ofChange nvmePlaysSpec)) nvmePlaysCard

/-- THE TIED CARD OF 'posthorselaw04.NvmeRefuses'. -/
def nvmeRefusesCard : Claim7 := { stood := { row := nvmeRefusesRow, standIns := [], harness := (true, "d300a46d850c5e6e3abf8638b47a30bf1a23e9f6a11fa499991c9566fb0545d4"), looks := true }, kinds := [], alts := [], laidByText := true, laidKinds := [.handle], laidTests := true, laidLooks := .later }
def NvmeRefusesCardSaid : Prop := Claim7.holds Tryd.pinned (.plain (OpenSpec.ofChange nvmeRefusesSpec)) nvmeRefusesCard

/-- THE TIED CARD OF 'posthorselaw05.DriveNil'. -/
def driveNilCard : Claim7 := { stood := { row := driveNilRow, standIns := [], harness := (true, "d300a46d850c5e6e3abf8638b47a30bf1a23e9f6a11fa499991c9566fb0545d4"), looks := true }, kinds := [], alts := [], laidByText := true, laidKinds := [.handle], laidTests := true, laidLooks := .later }
def DriveNilCardSaid : Prop := Claim7.holds Tryd.pinned (.plain (OpenSpec.ofChange driveNilSpec)) driveNilCard

/-- THE SECOND FORM's CARD OF 'posthorselaw04.NvmePlays'. -/
def nvmePlaysUptoCard : Claim7 := { stood := { row := nvmePlaysUptoRow, standIns := [], harness := (true, "d300a46d850c5e6e3abf8638b47a30bf1a23e9f6a11fa499991c9566fb0545d4"), looks := true }, kinds := [], alts := [], laidByText := true, laidKinds := [.handle], laidTests := true, laidLooks := .later }
def NvmePlaysUptoCardSaid : Prop := Claim7.holds Tryd.pinned (.plain (OpenSpec.upto nvmePlaysSpec)) nvmePlaysUptoCard

/-- THE SECOND FORM's CARD OF 'posthorselaw04.NvmeRefuses'. -/
def nvmeRefusesUptoCard : Claim7 := { stood := { row := nvmeRefusesUptoRow, standIns := [], harness := (true, "d300a46d850c5e6e3abf8638b47a30bf1a23e9f6a11fa499991c9566fb0545d4"), looks := true }, kinds := [], alts := [], laidByText := true, laidKinds := [.handle], laidTests := true, laidLooks := .later }
def NvmeRefusesUptoCardSaid : Prop := Claim7.holds Tryd.pinned (.plain (OpenSpec.upto nvmeRefusesSpec)) nvmeRefusesUptoCard

/-- THE SECOND FORM's CARD OF 'posthorselaw05.DriveNil'. -/
def driveNilUptoCard : Claim7 := { stood := { row := driveNilUptoRow, standIns := [], harness := (true, "d300a46d850c5e6e3abf8638b47a30bf1a23e9f6a11fa499991c9566fb0545d4"), looks := true }, kinds := [], alts := [], laidByText := true, laidKinds := [.handle], laidTests := true, laidLooks := .later }
def DriveNilUptoCardSaid : Prop := Claim7.holds Tryd.pinned (.plain (OpenSpec.upto driveNilSpec)) driveNilUptoCard
end Rows
end Go.Proofs.YtofiedgnnpednaaDoor
