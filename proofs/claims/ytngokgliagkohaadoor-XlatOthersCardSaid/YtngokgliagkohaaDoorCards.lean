/-
  DERIVED. GIVEN WITH THE SEED: THE CARDS: each row of YtngokgliagkohaaDoorRows.lean that lists a variable, with what it lists TIED to the program's text (the seventh form; the later family's looks); each row that meets fmt, with fmt's text TOLD by the authors' own Lean function (tested against real Go, not proved from fmt's source: count such statements apart). THE CARD IS WHAT COUNTS. Prove the row's statement (the work); the ties are given (YtngokgliagkohaaDoorTie.lean); close each card by the builder's one call (the guide's Derived/Test/ToyasCard.lean, 'card_holds'). Laid BY PROGRAM, IN A SANDBOX (cutbox-door.mjs). By AI agents, Wed Nov 11 2026. No macro, syntax, notation, axiom, sorry.
-/
import Derived.Test.YtngokgliagkohaaDoorRows
import GoSem.ClaimSeven
namespace Go.Proofs.YtngokgliagkohaaDoor
namespace Rows

/-- THE TIED CARD OF 'posthorselaw07.BitsApart'. -/
def bitsApartCard : Claim7 := { stood := { row := bitsApartRow, standIns := [], harness := (true, "6a8442e7f5f8647b5c3045a0fcba29d84cee006f5e01353a171b07fad527c3ab"), looks := true }, kinds := [], alts := [], laidByText := true, laidKinds := [.data], laidTests := true, laidLooks := .later }
def BitsApartCardSaid : Prop := Claim7.holds Tryd.pinned (.plain (OpenSpec.ofChange bitsApartSpec)) bitsApartCard

/-- THE TIED CARD OF 'posthorselaw07.BitsLongest'. -/
def bitsLongestCard : Claim7 := { stood := { row := bitsLongestRow, standIns := [], harness := (true, "6a8442e7f5f8647b5c3045a0fcba29d84cee006f5e01353a171b07fad527c3ab"), looks := true }, kinds := [], alts := [], laidByText := true, laidKinds := [.data], laidTests := true, laidLooks := .later }
def BitsLongestCardSaid : Prop := Claim7.holds Tryd.pinned (.plain (OpenSpec.ofChange bitsLongestSpec)) bitsLongestCard

/-- THE TIED CARD OF 'posthorselaw23.XlatVersions'. -/
def xlatVersionsCard : Claim7 := { stood := { row := xlatVersionsRow, standIns := [], harness := (true, "6a8442e7f5f8647b5c3045a0fcba29d84cee006f5e01353a171b07fad527c3ab"), looks := true }, kinds := [], alts := [], laidByText := true, laidKinds := [.handle], laidTests := true, laidLooks := .later }
def XlatVersionsCardSaid : Prop := Claim7.holds Tryd.pinned (.plain (OpenSpec.ofChange xlatVersionsSpec)) xlatVersionsCard

/-- THE TIED CARD OF 'posthorselaw23.XlatOthers'. -/
def xlatOthersCard : Claim7 := { stood := { row := xlatOthersRow, standIns := [], harness := (true, "6a8442e7f5f8647b5c3045a0fcba29d84cee006f5e01353a171b07fad527c3ab"), looks := true }, kinds := [], alts := [], laidByText := true, laidKinds := [.handle], laidTests := true, laidLooks := .later }
def XlatOthersCardSaid : Prop := Claim7.holds Tryd.pinned (.plain (OpenSpec.ofChange xlatOthersSpec)) xlatOthersCard

/-- THE TIED CARD OF 'posthorselaw23.XlatNil'. -/
def xlatNilCard : Claim7 := { stood := { row := xlatNilRow, standIns := [], harness := (true, "6a8442e7f5f8647b5c3045a0fcba29d84cee006f5e01353a171b07fad527c3ab"), looks := true }, kinds := [], alts := [], laidByText := true, laidKinds := [.handle], laidTests := true, laidLooks := .later }
def XlatNilCardSaid : Prop := Claim7.holds Tryd.pinned (.plain (OpenSpec.ofChange xlatNilSpec)) xlatNilCard

/-- THE TIED CARD OF 'posthorselaw07.BitsNone'. -/
def bitsNoneCard : Claim7 := { stood := { row := bitsNoneRow, standIns := [], harness := (true, "6a8442e7f5f8647b5c3045a0fcba29d84cee006f5e01353a171b07fad527c3ab"), looks := true }, kinds := [], alts := [], laidByText := true, laidKinds := [.handle, .data], laidTests := true, laidLooks := .later }
def BitsNoneCardSaid : Prop := Claim7.holds Tryd.pinned (.plain (OpenSpec.ofChange bitsNoneSpec)) bitsNoneCard

/-- THE TIED CARD OF 'posthorselaw07.BitsGets'. -/
def bitsGetsCard : Claim7 := { stood := { row := bitsGetsRow, standIns := [], harness := (true, "6a8442e7f5f8647b5c3045a0fcba29d84cee006f5e01353a171b07fad527c3ab"), looks := true }, kinds := [], alts := [], laidByText := true, laidKinds := [.handle, .data], laidTests := true, laidLooks := .later }
def BitsGetsCardSaid : Prop := Claim7.holds Tryd.pinned (.plain (OpenSpec.ofChange bitsGetsSpec)) bitsGetsCard

/-- THE TIED CARD OF 'posthorselaw07.BitsPlays'. -/
def bitsPlaysCard : Claim7 := { stood := { row := bitsPlaysRow, standIns := [], harness := (true, "6a8442e7f5f8647b5c3045a0fcba29d84cee006f5e01353a171b07fad527c3ab"), looks := true }, kinds := [], alts := [], laidByText := true, laidKinds := [.handle, .data], laidTests := true, laidLooks := .later }
def BitsPlaysCardSaid : Prop := Claim7.holds Tryd.pinned (.plain (OpenSpec.ofChange bitsPlaysSpec)) bitsPlaysCard

/-- THE SECOND FORM's CARD OF 'posthorselaw07.BitsApart'. -/
def bitsApartUptoCard : Claim7 := { stood := { row := bitsApartUptoRow, standIns := [], harness := (true, "6a8442e7f5f8647b5c3045a0fcba29d84cee006f5e01353a171b07fad527c3ab"), looks := true }, kinds := [], alts := [], laidByText := true, laidKinds := [.data], laidTests := true, laidLooks := .later }
def BitsApartUptoCardSaid : Prop := Claim7.holds Tryd.pinned (.plain (OpenSpec.upto bitsApartSpec)) bitsApartUptoCard

/-- THE SECOND FORM's CARD OF 'posthorselaw07.BitsLongest'. -/
def bitsLongestUptoCard : Claim7 := { stood := { row := bitsLongestUptoRow, standIns := [], harness := (true, "6a8442e7f5f8647b5c3045a0fcba29d84cee006f5e01353a171b07fad527c3ab"), looks := true }, kinds := [], alts := [], laidByText := true, laidKinds := [.data], laidTests := true, laidLooks := .later }
def BitsLongestUptoCardSaid : Prop := Claim7.holds Tryd.pinned (.plain (OpenSpec.upto bitsLongestSpec)) bitsLongestUptoCard

/-- THE SECOND FORM's CARD OF 'posthorselaw23.XlatVersions'. -/
def xlatVersionsUptoCard : Claim7 := { stood := { row := xlatVersionsUptoRow, standIns := [], harness := (true, "6a8442e7f5f8647b5c3045a0fcba29d84cee006f5e01353a171b07fad527c3ab"), looks := true }, kinds := [], alts := [], laidByText := true, laidKinds := [.handle], laidTests := true, laidLooks := .later }
def XlatVersionsUptoCardSaid : Prop := Claim7.holds Tryd.pinned (.plain (OpenSpec.upto xlatVersionsSpec)) xlatVersionsUptoCard

/-- THE SECOND FORM's CARD OF 'posthorselaw23.XlatOthers'. -/
def xlatOthersUptoCard : Claim7 := { stood := { row := xlatOthersUptoRow, standIns := [], harness := (true, "6a8442e7f5f8647b5c3045a0fcba29d84cee006f5e01353a171b07fad527c3ab"), looks := true }, kinds := [], alts := [], laidByText := true, laidKinds := [.handle], laidTests := true, laidLooks := .later }
def XlatOthersUptoCardSaid : Prop := Claim7.holds Tryd.pinned (.plain (OpenSpec.upto xlatOthersSpec)) xlatOthersUptoCard

/-- THE SECOND FORM's CARD OF 'posthorselaw23.XlatNil'. -/
def xlatNilUptoCard : Claim7 := { stood := { row := xlatNilUptoRow, standIns := [], harness := (true, "6a8442e7f5f8647b5c3045a0fcba29d84cee006f5e01353a171b07fad527c3ab"), looks := true }, kinds := [], alts := [], laidByText := true, laidKinds := [.handle], laidTests := true, laidLooks := .later }
def XlatNilUptoCardSaid : Prop := Claim7.holds Tryd.pinned (.plain (OpenSpec.upto xlatNilSpec)) xlatNilUptoCard

/-- THE SECOND FORM's CARD OF 'posthorselaw07.BitsNone'. -/
def bitsNoneUptoCard : Claim7 := { stood := { row := bitsNoneUptoRow, standIns := [], harness := (true, "6a8442e7f5f8647b5c3045a0fcba29d84cee006f5e01353a171b07fad527c3ab"), looks := true }, kinds := [], alts := [], laidByText := true, laidKinds := [.handle, .data], laidTests := true, laidLooks := .later }
def BitsNoneUptoCardSaid : Prop := Claim7.holds Tryd.pinned (.plain (OpenSpec.upto bitsNoneSpec)) bitsNoneUptoCard

/-- THE SECOND FORM's CARD OF 'posthorselaw07.BitsGets'. -/
def bitsGetsUptoCard : Claim7 := { stood := { row := bitsGetsUptoRow, standIns := [], harness := (true, "6a8442e7f5f8647b5c3045a0fcba29d84cee006f5e01353a171b07fad527c3ab"), looks := true }, kinds := [], alts := [], laidByText := true, laidKinds := [.handle, .data], laidTests := true, laidLooks := .later }
def BitsGetsUptoCardSaid : Prop := Claim7.holds Tryd.pinned (.plain (OpenSpec.upto bitsGetsSpec)) bitsGetsUptoCard

/-- THE SECOND FORM's CARD OF 'posthorselaw07.BitsPlays'. -/
def bitsPlaysUptoCard : Claim7 := { stood := { row := bitsPlaysUptoRow, standIns := [], harness := (true, "6a8442e7f5f8647b5c3045a0fcba29d84cee006f5e01353a171b07fad527c3ab"), looks := true }, kinds := [], alts := [], laidByText := true, laidKinds := [.handle, .data], laidTests := true, laidLooks := .later }
def BitsPlaysUptoCardSaid : Prop := Claim7.holds Tryd.pinned (.plain (OpenSpec.upto bitsPlaysSpec)) bitsPlaysUptoCard
end Rows
end Go.Proofs.YtngokgliagkohaaDoor
