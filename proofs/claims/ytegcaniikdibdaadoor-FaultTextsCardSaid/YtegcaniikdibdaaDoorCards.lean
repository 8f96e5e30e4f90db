/-
  DERIVED. GIVEN WITH THE SEED: THE CARDS: each row of YtegcaniikdibdaaDoorRows.lean that lists a variable, with what it lists TIED to the program's text (the seventh form; the later family's looks); each row that meets fmt, with fmt's text TOLD by the authors' own Lean function (tested against real Go, not proved from fmt's source: count such statements apart). THE CARD IS WHAT COUNTS. Prove the row's statement (the work); the ties are given (YtegcaniikdibdaaDoorTie.lean); close each card by the builder's one call (the guide's Derived/Test/ToyasCard.lean, 'card_holds'). Laid BY PROGRAM, IN A SANDBOX (cutbox-door.mjs). By AI agents, Wed Nov 11 2026. No macro, syntax, notation, axiom, sorry.
-/
import Derived.Test.YtegcaniikdibdaaDoorRows
import GoSem.ClaimSeven
namespace Go.Proofs.YtegcaniikdibdaaDoor
namespace Rows

/-- THE TIED CARD OF 'posthorselaw02.FaultIs'. -/
def faultIsCard : Claim7 := { stood := { row := faultIsRow, standIns := [], harness := (true, "3cd269889507c6a98a65b8837f083d7164d503e5e9cdf7962529a41e75074549"), looks := true }, kinds := [], alts := [], laidByText := true, laidKinds := [.data, .data, .data, .data, .handle], laidTests := true, laidLooks := .later }
def FaultIsCardSaid : Prop := Claim7.holds Tryd.pinned (.plain (OpenSpec.ofChange faultIsSpec)) faultIsCard

/-- THE TIED CARD OF 'posthorselaw02.FaultTexts'. -/
def faultTextsCard : Claim7 := { stood := { row := faultTextsRow, standIns := [], harness := (true, "3cd269889507c6a98a65b8837f083d7164d503e5e9cdf7962529a41e75074549"), looks := true }, kinds := [], alts := [], laidByText := true, laidKinds := [.data, .data, .data, .data, .handle], laidTests := true, laidLooks := .later }
def FaultTextsCardSaid : Prop := Claim7.holds Tryd.pinned (.plain (OpenSpec.ofChange faultTextsSpec)) faultTextsCard

/-- THE TIED CARD OF 'posthorselaw02.FaultJoins'. -/
def faultJoinsCard : Claim7 := { stood := { row := faultJoinsRow, standIns := [], harness := (true, "3cd269889507c6a98a65b8837f083d7164d503e5e9cdf7962529a41e75074549"), looks := true }, kinds := [], alts := [], laidByText := true, laidKinds := [.data, .data, .data, .data, .handle], laidTests := true, laidLooks := .later }
def FaultJoinsCardSaid : Prop := Claim7.holds Tryd.pinned (.plain (OpenSpec.ofChange faultJoinsSpec)) faultJoinsCard

/-- THE TIED CARD OF 'posthorselaw02.FaultNil'. -/
def faultNilCard : Claim7 := { stood := { row := faultNilRow, standIns := [], harness := (true, "3cd269889507c6a98a65b8837f083d7164d503e5e9cdf7962529a41e75074549"), looks := true }, kinds := [], alts := [], laidByText := true, laidKinds := [.data, .data, .data, .data, .handle], laidTests := true, laidLooks := .later }
def FaultNilCardSaid : Prop := Claim7.holds Tryd.pinned (.plain (OpenSpec.ofChange faultNilSpec)) faultNilCard

/-- THE TIED CARD OF 'posthorselaw02.FaultFinds'. -/
def faultFindsCard : Claim7 := { stood := { row := faultFindsRow, standIns := [], harness := (true, "3cd269889507c6a98a65b8837f083d7164d503e5e9cdf7962529a41e75074549"), looks := true }, kinds := [], alts := [], laidByText := true, laidKinds := [.data, .data, .data, .data, .handle], laidTests := true, laidLooks := .later }
def FaultFindsCardSaid : Prop := Claim7.holds Tryd.pinned (.plain (OpenSpec.ofChange faultFindsSpec)) faultFindsCard

/-- THE TIED CARD OF 'posthorselaw11.PageApart'. -/
def pageApartCard : Claim7 := { stood := { row := pageApartRow, standIns := [], harness := (true, "3cd269889507c6a98a65b8837f083d7164d503e5e9cdf7962529a41e75074549"), looks := true }, kinds := [], alts := [], laidByText := true, laidKinds := [.data, .data, .pinned], laidTests := true, laidLooks := .later }
def PageApartCardSaid : Prop := Claim7.holds Tryd.pinned (.plain (OpenSpec.ofChange pageApartSpec)) pageApartCard

/-- THE TIED CARD OF 'posthorselaw11.PageChanges'. -/
def pageChangesCard : Claim7 := { stood := { row := pageChangesRow, standIns := [], harness := (true, "3cd269889507c6a98a65b8837f083d7164d503e5e9cdf7962529a41e75074549"), looks := true }, kinds := [], alts := [], laidByText := true, laidKinds := [.data, .data, .pinned], laidTests := true, laidLooks := .later }
def PageChangesCardSaid : Prop := Claim7.holds Tryd.pinned (.plain (OpenSpec.ofChange pageChangesSpec)) pageChangesCard

/-- THE SECOND FORM's CARD OF 'posthorselaw02.FaultIs'. -/
def faultIsUptoCard : Claim7 := { stood := { row := faultIsUptoRow, standIns := [], harness := (true, "3cd269889507c6a98a65b8837f083d7164d503e5e9cdf7962529a41e75074549"), looks := true }, kinds := [], alts := [], laidByText := true, laidKinds := [.data, .data, .data, .data, .handle], laidTests := true, laidLooks := .later }
def FaultIsUptoCardSaid : Prop := Claim7.holds Tryd.pinned (.plain (OpenSpec.upto faultIsSpec)) faultIsUptoCard

/-- THE SECOND FORM's CARD OF 'posthorselaw02.FaultTexts'. -/
def faultTextsUptoCard : Claim7 := { stood := { row := faultTextsUptoRow, standIns := [], harness := (true, "3cd269889507c6a98a65b8837f083d7164d503e5e9cdf7962529a41e75074549"), looks := true }, kinds := [], alts := [], laidByText := true, laidKinds := [.data, .data, .data, .data, .handle], laidTests := true, laidLooks := .later }
def FaultTextsUptoCardSaid : Prop := Claim7.holds Tryd.pinned (.plain (OpenSpec.upto faultTextsSpec)) faultTextsUptoCard

/-- THE SECOND FORM's CARD OF 'posthorselaw02.FaultJoins'. -/
def faultJoinsUptoCard : Claim7 := { stood := { row := faultJoinsUptoRow, standIns := [], harness := (true, "3cd269889507c6a98a65b8837f083d7164d503e5e9cdf7962529a41e75074549"), looks := true }, kinds := [], alts := [], laidByText := true, laidKinds := [.data, .data, .data, .data, .handle], laidTests := true, laidLooks := .later }
def FaultJoinsUptoCardSaid : Prop := Claim7.holds Tryd.pinned (.plain (OpenSpec.upto faultJoinsSpec)) faultJoinsUptoCard

/-- THE SECOND FORM's CARD OF 'posthorselaw02.FaultNil'. -/
def faultNilUptoCard : Claim7 := { stood := { row := faultNilUptoRow, standIns := [], harness := (true, "3cd269889507c6a98a65b8837f083d7164d503e5e9cdf7962529a41e75074549"), looks := true }, kinds := [], alts := [], laidByText := true, laidKinds := [.data, .data, .data, .data, .handle], laidTests := true, laidLooks := .later }
def FaultNilUptoCardSaid : Prop := Claim7.holds Tryd.pinned (.plain (OpenSpec.upto faultNilSpec)) faultNilUptoCard

/-- THE SECOND FORM's CARD OF 'posthorselaw02.FaultFinds'. -/
def faultFindsUptoCard : Claim7 := { stood := { row := faultFindsUptoRow, standIns := [], harness := (true, "3cd269889507c6a98a65b8837f083d7164d503e5e9cdf7962529a41e75074549"), looks := true }, kinds := [], alts := [], laidByText := true, laidKinds := [.data, .data, .data, .data, .handle], laidTests := true, laidLooks := .later }
def FaultFindsUptoCardSaid : Prop := Claim7.holds Tryd.pinned (.plain (OpenSpec.upto faultFindsSpec)) faultFindsUptoCard

/-- THE SECOND FORM's CARD OF 'posthorselaw11.PageApart'. -/
def pageApartUptoCard : Claim7 := { stood := { row := pageApartUptoRow, standIns := [], harness := (true, "3cd269889507c6a98a65b8837f083d7164d503e5e9cdf7962529a41e75074549"), looks := true }, kinds := [], alts := [], laidByText := true, laidKinds := [.data, .data, .pinned], laidTests := true, laidLooks := .later }
def PageApartUptoCardSaid : Prop := Claim7.holds Tryd.pinned (.plain (OpenSpec.upto pageApartSpec)) pageApartUptoCard

/-- THE SECOND FORM's CARD OF 'posthorselaw11.PageChanges'. -/
def pageChangesUptoCard : Claim7 := { stood := { row := pageChangesUptoRow, standIns := [], harness := (true, "3cd269889507c6a98a65b8837f083d7164d503e5e9cdf7962529a41e75074549"), looks := true }, kinds := [], alts := [], laidByText := true, laidKinds := [.data, .data, .pinned], laidTests := true, laidLooks := .later }
def PageChangesUptoCardSaid : Prop := Claim7.holds Tryd.pinned (.plain (OpenSpec.upto pageChangesSpec)) pageChangesUptoCard
end Rows
end Go.Proofs.YtegcaniikdibdaaDoor
