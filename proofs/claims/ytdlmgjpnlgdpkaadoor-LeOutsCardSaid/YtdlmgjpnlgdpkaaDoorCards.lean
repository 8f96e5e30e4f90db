/-
  DERIVED. GIVEN WITH THE SEED: THE CARDS: each row of YtdlmgjpnlgdpkaaDoorRows.lean that lists a variable, with what it lists TIED to the program's text (the seventh form; the later family's looks); each row that meets fmt, with fmt's text TOLD by the authors' own Lean function (tested against real Go, not proved from fmt's source: count such statements apart). THE CARD IS WHAT COUNTS. Prove the row's statement (the work); the ties are given (YtdlmgjpnlgdpkaaDoorTie.lean); close each card by the builder's one call (the guide's Derived/Test/ToyasCard.lean, 'card_holds'). Laid BY PROGRAM, IN A SANDBOX (cutbox-door.mjs). By AI agents, Wed Nov 11 2026. No macro, syntax, notation, axiom, sorry.
-/
import Derived.Test.YtdlmgjpnlgdpkaaDoorRows
import GoSem.ClaimSeven
namespace Go.Proofs.YtdlmgjpnlgdpkaaDoor
namespace Rows

/-- THE TIED CARD OF 'posthorselaw03.MarkSums'. -/
def markSumsCard : Claim7 := { stood := { row := markSumsRow, standIns := [], harness := (true, "3a5bf9dc26c946f7f153fab44f6258b1e7e3b360d093f99db2fdc57c96ef40c4"), looks := true }, kinds := [], alts := [], laidByText := true, laidKinds := [.data], laidTests := true, laidLooks := .later }
def MarkSumsCardSaid : Prop := Claim7.holds Tryd.pinned (.plain (OpenSpec.ofChange markSumsSpec)) markSumsCard

/-- THE TIED CARD OF 'posthorselaw03.MarkSpoilt'. -/
def markSpoiltCard : Claim7 := { stood := { row := markSpoiltRow, standIns := [], harness := (true, "3a5bf9dc26c946f7f153fab44f6258b1e7e3b360d093f99db2fdc57c96ef40c4"), looks := true }, kinds := [], alts := [], laidByText := true, laidKinds := [.data], laidTests := true, laidLooks := .later }
def MarkSpoiltCardSaid : Prop := Claim7.holds Tryd.pinned (.plain (OpenSpec.ofChange markSpoiltSpec)) markSpoiltCard

/-- THE TIED CARD OF 'posthorselaw03.MarkApart'. -/
def markApartCard : Claim7 := { stood := { row := markApartRow, standIns := [], harness := (true, "3a5bf9dc26c946f7f153fab44f6258b1e7e3b360d093f99db2fdc57c96ef40c4"), looks := true }, kinds := [], alts := [], laidByText := true, laidKinds := [.data], laidTests := true, laidLooks := .later }
def MarkApartCardSaid : Prop := Claim7.holds Tryd.pinned (.plain (OpenSpec.ofChange markApartSpec)) markApartCard

/-- THE TIED CARD OF 'posthorselaw03.MarkSeals'. -/
def markSealsCard : Claim7 := { stood := { row := markSealsRow, standIns := [], harness := (true, "3a5bf9dc26c946f7f153fab44f6258b1e7e3b360d093f99db2fdc57c96ef40c4"), looks := true }, kinds := [], alts := [], laidByText := true, laidKinds := [.handle, .data], laidTests := true, laidLooks := .later }
def MarkSealsCardSaid : Prop := Claim7.holds Tryd.pinned (.plain (OpenSpec.ofChange markSealsSpec)) markSealsCard

/-- THE TIED CARD OF 'posthorselaw03.MarkOpens'. -/
def markOpensCard : Claim7 := { stood := { row := markOpensRow, standIns := [], harness := (true, "3a5bf9dc26c946f7f153fab44f6258b1e7e3b360d093f99db2fdc57c96ef40c4"), looks := true }, kinds := [], alts := [], laidByText := true, laidKinds := [.handle, .data], laidTests := true, laidLooks := .later }
def MarkOpensCardSaid : Prop := Claim7.holds Tryd.pinned (.plain (OpenSpec.ofChange markOpensSpec)) markOpensCard

/-- THE TIED CARD OF 'posthorselaw01.LeOuts'. -/
def leOutsCard : Claim7 := { stood := { row := leOutsRow, standIns := [], harness := (true, "3a5bf9dc26c946f7f153fab44f6258b1e7e3b360d093f99db2fdc57c96ef40c4"), looks := true }, kinds := [], alts := [], laidByText := true, laidKinds := [.handle], laidTests := true, laidLooks := .later }
def LeOutsCardSaid : Prop := Claim7.holds Tryd.pinned (.plain (OpenSpec.ofChange leOutsSpec)) leOutsCard

/-- THE TIED CARD OF 'posthorselaw01.LeReads'. -/
def leReadsCard : Claim7 := { stood := { row := leReadsRow, standIns := [], harness := (true, "3a5bf9dc26c946f7f153fab44f6258b1e7e3b360d093f99db2fdc57c96ef40c4"), looks := true }, kinds := [], alts := [], laidByText := true, laidKinds := [.data, .handle, .pinned], laidTests := true, laidLooks := .later }
def LeReadsCardSaid : Prop := Claim7.holds Tryd.pinned (.plain (OpenSpec.ofChange leReadsSpec)) leReadsCard

/-- THE TIED CARD OF 'posthorselaw01.LeNil'. -/
def leNilCard : Claim7 := { stood := { row := leNilRow, standIns := [], harness := (true, "3a5bf9dc26c946f7f153fab44f6258b1e7e3b360d093f99db2fdc57c96ef40c4"), looks := true }, kinds := [], alts := [], laidByText := true, laidKinds := [.data, .handle, .pinned], laidTests := true, laidLooks := .later }
def LeNilCardSaid : Prop := Claim7.holds Tryd.pinned (.plain (OpenSpec.ofChange leNilSpec)) leNilCard

/-- THE SECOND FORM's CARD OF 'posthorselaw03.MarkSums'. -/
def markSumsUptoCard : Claim7 := { stood := { row := markSumsUptoRow, standIns := [], harness := (true, "3a5bf9dc26c946f7f153fab44f6258b1e7e3b360d093f99db2fdc57c96ef40c4"), looks := true }, kinds := [], alts := [], laidByText := true, laidKinds := [.data], laidTests := true, laidLooks := .later }
def MarkSumsUptoCardSaid : Prop := Claim7.holds Tryd.pinned (.plain (OpenSpec.upto markSumsSpec)) markSumsUptoCard

/-- THE SECOND FORM's CARD OF 'posthorselaw03.MarkSpoilt'. -/
def markSpoiltUptoCard : Claim7 := { stood := { row := markSpoiltUptoRow, standIns := [], harness := (true, "3a5bf9dc26c946f7f153fab44f6258b1e7e3b360d093f99db2fdc57c96ef40c4"), looks := true }, kinds := [], alts := [], laidByText := true, laidKinds := [.data], laidTests := true, laidLooks := .later }
def MarkSpoiltUptoCardSaid : Prop := Claim7.holds Tryd.pinned (.plain (OpenSpec.upto markSpoiltSpec)) markSpoiltUptoCard

/-- THE SECOND FORM's CARD OF 'posthorselaw03.MarkApart'. -/
def markApartUptoCard : Claim7 := { stood := { row := markApartUptoRow, standIns := [], harness := (true, "3a5bf9dc26c946f7f153fab44f6258b1e7e3b360d093f99db2fdc57c96ef40c4"), looks := true }, kinds := [], alts := [], laidByText := true, laidKinds := [.data], laidTests := true, laidLooks := .later }
def MarkApartUptoCardSaid : Prop := Claim7.holds Tryd.pinned (.plain (OpenSpec.upto markApartSpec)) markApartUptoCard

/-- THE SECOND FORM's CARD OF 'posthorselaw03.MarkSeals'. -/
def markSealsUptoCard : Claim7 := { stood := { row := markSealsUptoRow, standIns := [], harness := (true, "3a5bf9dc26c946f7f153fab44f6258b1e7e3b360d093f99db2fdc57c96ef40c4"), looks := true }, kinds := [], alts := [], laidByText := true, laidKinds := [.handle, .data], laidTests := true, laidLooks := .later }
def MarkSealsUptoCardSaid : Prop := Claim7.holds Tryd.pinned (.plain (OpenSpec.upto markSealsSpec)) markSealsUptoCard

/-- THE SECOND FORM's CARD OF 'posthorselaw03.MarkOpens'. -/
def markOpensUptoCard : Claim7 := { stood := { row := markOpensUptoRow, standIns := [], harness := (true, "3a5bf9dc26c946f7f153fab44f6258b1e7e3b360d093f99db2fdc57c96ef40c4"), looks := true }, kinds := [], alts := [], laidByText := true, laidKinds := [.handle, .data], laidTests := true, laidLooks := .later }
def MarkOpensUptoCardSaid : Prop := Claim7.holds Tryd.pinned (.plain (OpenSpec.upto markOpensSpec)) markOpensUptoCard

/-- THE SECOND FORM's CARD OF 'posthorselaw01.LeOuts'. -/
def leOutsUptoCard : Claim7 := { stood := { row := leOutsUptoRow, standIns := [], harness := (true, "3a5bf9dc26c946f7f153fab44f6258b1e7e3b360d093f99db2fdc57c96ef40c4"), looks := true }, kinds := [], alts := [], laidByText := true, laidKinds := [.handle], laidTests := true, laidLooks := .later }
def LeOutsUptoCardSaid : Prop := Claim7.holds Tryd.pinned (.plain (OpenSpec.upto leOutsSpec)) leOutsUptoCard

/-- THE SECOND FORM's CARD OF 'posthorselaw01.LeReads'. -/
def leReadsUptoCard : Claim7 := { stood := { row := leReadsUptoRow, standIns := [], harness := (true, "3a5bf9dc26c946f7f153fab44f6258b1e7e3b360d093f99db2fdc57c96ef40c4"), looks := true }, kinds := [], alts := [], laidByText := true, laidKinds := [.data, .handle, .pinned], laidTests := true, laidLooks := .later }
def LeReadsUptoCardSaid : Prop := Claim7.holds Tryd.pinned (.plain (OpenSpec.upto leReadsSpec)) leReadsUptoCard

/-- THE SECOND FORM's CARD OF 'posthorselaw01.LeNil'. -/
def leNilUptoCard : Claim7 := { stood := { row := leNilUptoRow, standIns := [], harness := (true, "3a5bf9dc26c946f7f153fab44f6258b1e7e3b360d093f99db2fdc57c96ef40c4"), looks := true }, kinds := [], alts := [], laidByText := true, laidKinds := [.data, .handle, .pinned], laidTests := true, laidLooks := .later }
def LeNilUptoCardSaid : Prop := Claim7.holds Tryd.pinned (.plain (OpenSpec.upto leNilSpec)) leNilUptoCard
end Rows
end Go.Proofs.YtdlmgjpnlgdpkaaDoor
