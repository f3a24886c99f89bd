/-
  DERIVED. GIVEN WITH THE SEED: THE CARDS: each row of YtinbpjodheceoaaDoorRows.lean that lists a variable, with what it lists TIED to the program's text (the seventh form; the later family's looks); each row that meets fmt, with fmt's text TOLD by the authors' own Lean function (tested against real Go, not proved from fmt's source: count such statements apart). THE CARD IS WHAT COUNTS. Prove the row's statement (the work); the ties are given (YtinbpjodheceoaaDoorTie.lean); close each card by the builder's one call (the guide's Derived/Test/ToyasCard.lean, 'card_holds'). Laid BY PROGRAM, IN A SANDBOX (cutbox-door.mjs). By AI agents, Wed Nov 11 2026. No macro, syntax, notation, axiom, sorry.
-/
import Derived.Test.YtinbpjodheceoaaDoorRows
import GoSem.ClaimSeven
namespace Go.Proofs.YtinbpjodheceoaaDoor
namespace Rows

/-- THE TIED CARD OF 'blotterlaw08.AnchorStays'. -/
def anchorStaysCard : Claim7 := { stood := { row := anchorStaysRow, standIns := [], harness := (true, "f53f82279ac84fa5ca1ece89baa0d9807ccbba68dd6c7dd36a000015345da5f5"), looks := false }, kinds := [], alts := [], laidByText := true, laidKinds := [.data, .pinned], laidTests := true, laidLooks := .later }
def AnchorStaysCardSaid : Prop := Claim7.holds Tryd.pinned (.plain (OpenSpec.ofChange anchorStaysSpec)) anchorStaysCard

/-- THE TIED CARD OF 'blotterlaw08.AnchorPlain'. -/
def anchorPlainCard : Claim7 := { stood := { row := anchorPlainRow, standIns := [], harness := (true, "f53f82279ac84fa5ca1ece89baa0d9807ccbba68dd6c7dd36a000015345da5f5"), looks := false }, kinds := [], alts := [], laidByText := true, laidKinds := [.data, .pinned], laidTests := true, laidLooks := .later }
def AnchorPlainCardSaid : Prop := Claim7.holds Tryd.pinned (.plain (OpenSpec.ofChange anchorPlainSpec)) anchorPlainCard

/-- THE TIED CARD OF 'blotterlaw03.ChangeOnce'. -/
def changeOnceCard : Claim7 := { stood := { row := changeOnceRow, standIns := [], harness := (true, "f53f82279ac84fa5ca1ece89baa0d9807ccbba68dd6c7dd36a000015345da5f5"), looks := false }, kinds := [], alts := [], laidByText := true, laidKinds := [.data, .pinned], laidTests := true, laidLooks := .later }
def ChangeOnceCardSaid : Prop := Claim7.holds Tryd.pinned (.plain (OpenSpec.ofChange changeOnceSpec)) changeOnceCard

/-- THE TIED CARD OF 'blotterlaw03.ChangeParts'. -/
def changePartsCard : Claim7 := { stood := { row := changePartsRow, standIns := [], harness := (true, "f53f82279ac84fa5ca1ece89baa0d9807ccbba68dd6c7dd36a000015345da5f5"), looks := false }, kinds := [], alts := [], laidByText := true, laidKinds := [.data, .pinned], laidTests := true, laidLooks := .later }
def ChangePartsCardSaid : Prop := Claim7.holds Tryd.pinned (.plain (OpenSpec.ofChange changePartsSpec)) changePartsCard

/-- THE TIED CARD OF 'blotterlaw03.ChangeRights'. -/
def changeRightsCard : Claim7 := { stood := { row := changeRightsRow, standIns := [], harness := (true, "f53f82279ac84fa5ca1ece89baa0d9807ccbba68dd6c7dd36a000015345da5f5"), looks := false }, kinds := [], alts := [], laidByText := true, laidKinds := [.data, .pinned], laidTests := true, laidLooks := .later }
def ChangeRightsCardSaid : Prop := Claim7.holds Tryd.pinned (.plain (OpenSpec.ofChange changeRightsSpec)) changeRightsCard

/-- THE TIED CARD OF 'blotterlaw03.ChangeNothing'. -/
def changeNothingCard : Claim7 := { stood := { row := changeNothingRow, standIns := [], harness := (true, "f53f82279ac84fa5ca1ece89baa0d9807ccbba68dd6c7dd36a000015345da5f5"), looks := false }, kinds := [], alts := [], laidByText := true, laidKinds := [.data, .pinned], laidTests := true, laidLooks := .later }
def ChangeNothingCardSaid : Prop := Claim7.holds Tryd.pinned (.plain (OpenSpec.ofChange changeNothingSpec)) changeNothingCard

/-- THE TIED CARD OF 'blotterlaw03.ChangeNormals'. -/
def changeNormalsCard : Claim7 := { stood := { row := changeNormalsRow, standIns := [], harness := (true, "f53f82279ac84fa5ca1ece89baa0d9807ccbba68dd6c7dd36a000015345da5f5"), looks := false }, kinds := [], alts := [], laidByText := true, laidKinds := [.data, .pinned], laidTests := true, laidLooks := .later }
def ChangeNormalsCardSaid : Prop := Claim7.holds Tryd.pinned (.plain (OpenSpec.ofChange changeNormalsSpec)) changeNormalsCard

/-- THE TIED CARD OF 'blotterlaw03.ChangeLonger'. -/
def changeLongerCard : Claim7 := { stood := { row := changeLongerRow, standIns := [], harness := (true, "f53f82279ac84fa5ca1ece89baa0d9807ccbba68dd6c7dd36a000015345da5f5"), looks := false }, kinds := [], alts := [], laidByText := true, laidKinds := [.data, .pinned], laidTests := true, laidLooks := .later }
def ChangeLongerCardSaid : Prop := Claim7.holds Tryd.pinned (.plain (OpenSpec.ofChange changeLongerSpec)) changeLongerCard

/-- THE TIED CARD OF 'blotterlaw08.AnchorMoves'. -/
def anchorMovesCard : Claim7 := { stood := { row := anchorMovesRow, standIns := [], harness := (true, "f53f82279ac84fa5ca1ece89baa0d9807ccbba68dd6c7dd36a000015345da5f5"), looks := false }, kinds := [], alts := [], laidByText := true, laidKinds := [.data, .pinned], laidTests := true, laidLooks := .later }
def AnchorMovesCardSaid : Prop := Claim7.holds Tryd.pinned (.plain (OpenSpec.ofChange anchorMovesSpec)) anchorMovesCard

/-- THE TIED CARD OF 'blotterlaw08.AnchorHolds'. -/
def anchorHoldsCard : Claim7 := { stood := { row := anchorHoldsRow, standIns := [], harness := (true, "f53f82279ac84fa5ca1ece89baa0d9807ccbba68dd6c7dd36a000015345da5f5"), looks := false }, kinds := [], alts := [], laidByText := true, laidKinds := [.data, .pinned], laidTests := true, laidLooks := .later }
def AnchorHoldsCardSaid : Prop := Claim7.holds Tryd.pinned (.plain (OpenSpec.ofChange anchorHoldsSpec)) anchorHoldsCard

/-- THE TIED CARD OF 'blotterlaw08.AnchorApart'. -/
def anchorApartCard : Claim7 := { stood := { row := anchorApartRow, standIns := [], harness := (true, "f53f82279ac84fa5ca1ece89baa0d9807ccbba68dd6c7dd36a000015345da5f5"), looks := false }, kinds := [], alts := [], laidByText := true, laidKinds := [.data, .pinned], laidTests := true, laidLooks := .later }
def AnchorApartCardSaid : Prop := Claim7.holds Tryd.pinned (.plain (OpenSpec.ofChange anchorApartSpec)) anchorApartCard

/-- THE SECOND FORM's CARD OF 'blotterlaw08.AnchorStays'. -/
def anchorStaysUptoCard : Claim7 := { stood := { row := anchorStaysUptoRow, standIns := [], harness := (true, "f53f82279ac84fa5ca1ece89baa0d9807ccbba68dd6c7dd36a000015345da5f5"), looks := false }, kinds := [], alts := [], laidByText := true, laidKinds := [.data, .pinned], laidTests := true, laidLooks := .later }
def AnchorStaysUptoCardSaid : Prop := Claim7.holds Tryd.pinned (.plain (OpenSpec.upto anchorStaysSpec)) anchorStaysUptoCard

/-- THE SECOND FORM's CARD OF 'blotterlaw08.AnchorPlain'. -/
def anchorPlainUptoCard : Claim7 := { stood := { row := anchorPlainUptoRow, standIns := [], harness := (true, "f53f82279ac84fa5ca1ece89baa0d9807ccbba68dd6c7dd36a000015345da5f5"), looks := false }, kinds := [], alts := [], laidByText := true, laidKinds := [.data, .pinned], laidTests := true, laidLooks := .later }
def AnchorPlainUptoCardSaid : Prop := Claim7.holds Tryd.pinned (.plain (OpenSpec.upto anchorPlainSpec)) anchorPlainUptoCard

/-- THE SECOND FORM's CARD OF 'blotterlaw03.ChangeOnce'. -/
def changeOnceUptoCard : Claim7 := { stood := { row := changeOnceUptoRow, standIns := [], harness := (true, "f53f82279ac84fa5ca1ece89baa0d9807ccbba68dd6c7dd36a000015345da5f5"), looks := false }, kinds := [], alts := [], laidByText := true, laidKinds := [.data, .pinned], laidTests := true, laidLooks := .later }
def ChangeOnceUptoCardSaid : Prop := Claim7.holds Tryd.pinned (.plain (OpenSpec.upto changeOnceSpec)) changeOnceUptoCard

/-- THE SECOND FORM's CARD OF 'blotterlaw03.ChangeParts'. -/
def changePartsUptoCard : Claim7 := { stood := { row := changePartsUptoRow, standIns := [], harness := (true, "f53f82279ac84fa5ca1ece89baa0d9807ccbba68dd6c7dd36a000015345da5f5"), looks := false }, kinds := [], alts := [], laidByText := true, laidKinds := [.data, .pinned], laidTests := true, laidLooks := .later }
def ChangePartsUptoCardSaid : Prop := Claim7.holds Tryd.pinned (.plain (OpenSpec.upto changePartsSpec)) changePartsUptoCard

/-- THE SECOND FORM's CARD OF 'blotterlaw03.ChangeRights'. -/
def changeRightsUptoCard : Claim7 := { stood := { row := changeRightsUptoRow, standIns := [], harness := (true, "f53f82279ac84fa5ca1ece89baa0d9807ccbba68dd6c7dd36a000015345da5f5"), looks := false }, kinds := [], alts := [], laidByText := true, laidKinds := [.data, .pinned], laidTests := true, laidLooks := .later }
def ChangeRightsUptoCardSaid : Prop := Claim7.holds Tryd.pinned (.plain (OpenSpec.upto changeRightsSpec)) changeRightsUptoCard

/-- THE SECOND FORM's CARD OF 'blotterlaw03.ChangeNothing'. -/
def changeNothingUptoCard : Claim7 := { stood := { row := changeNothingUptoRow, standIns := [], harness := (true, "f53f82279ac84fa5ca1ece89baa0d9807ccbba68dd6c7dd36a000015345da5f5"), looks := false }, kinds := [], alts := [], laidByText := true, laidKinds := [.data, .pinned], laidTests := true, laidLooks := .later }
def ChangeNothingUptoCardSaid : Prop := Claim7.holds Tryd.pinned (.plain (OpenSpec.upto changeNothingSpec)) changeNothingUptoCard

/-- THE SECOND FORM's CARD OF 'blotterlaw03.ChangeNormals'. -/
def changeNormalsUptoCard : Claim7 := { stood := { row := changeNormalsUptoRow, standIns := [], harness := (true, "f53f82279ac84fa5ca1ece89baa0d9807ccbba68dd6c7dd36a000015345da5f5"), looks := false }, kinds := [], alts := [], laidByText := true, laidKinds := [.data, .pinned], laidTests := true, laidLooks := .later }
def ChangeNormalsUptoCardSaid : Prop := Claim7.holds Tryd.pinned (.plain (OpenSpec.upto changeNormalsSpec)) changeNormalsUptoCard

/-- THE SECOND FORM's CARD OF 'blotterlaw03.ChangeLonger'. -/
def changeLongerUptoCard : Claim7 := { stood := { row := changeLongerUptoRow, standIns := [], harness := (true, "f53f82279ac84fa5ca1ece89baa0d9807ccbba68dd6c7dd36a000015345da5f5"), looks := false }, kinds := [], alts := [], laidByText := true, laidKinds := [.data, .pinned], laidTests := true, laidLooks := .later }
def ChangeLongerUptoCardSaid : Prop := Claim7.holds Tryd.pinned (.plain (OpenSpec.upto changeLongerSpec)) changeLongerUptoCard

/-- THE SECOND FORM's CARD OF 'blotterlaw08.AnchorMoves'. -/
def anchorMovesUptoCard : Claim7 := { stood := { row := anchorMovesUptoRow, standIns := [], harness := (true, "f53f82279ac84fa5ca1ece89baa0d9807ccbba68dd6c7dd36a000015345da5f5"), looks := false }, kinds := [], alts := [], laidByText := true, laidKinds := [.data, .pinned], laidTests := true, laidLooks := .later }
def AnchorMovesUptoCardSaid : Prop := Claim7.holds Tryd.pinned (.plain (OpenSpec.upto anchorMovesSpec)) anchorMovesUptoCard

/-- THE SECOND FORM's CARD OF 'blotterlaw08.AnchorHolds'. -/
def anchorHoldsUptoCard : Claim7 := { stood := { row := anchorHoldsUptoRow, standIns := [], harness := (true, "f53f82279ac84fa5ca1ece89baa0d9807ccbba68dd6c7dd36a000015345da5f5"), looks := false }, kinds := [], alts := [], laidByText := true, laidKinds := [.data, .pinned], laidTests := true, laidLooks := .later }
def AnchorHoldsUptoCardSaid : Prop := Claim7.holds Tryd.pinned (.plain (OpenSpec.upto anchorHoldsSpec)) anchorHoldsUptoCard

/-- THE SECOND FORM's CARD OF 'blotterlaw08.AnchorApart'. -/
def anchorApartUptoCard : Claim7 := { stood := { row := anchorApartUptoRow, standIns := [], harness := (true, "f53f82279ac84fa5ca1ece89baa0d9807ccbba68dd6c7dd36a000015345da5f5"), looks := false }, kinds := [], alts := [], laidByText := true, laidKinds := [.data, .pinned], laidTests := true, laidLooks := .later }
def AnchorApartUptoCardSaid : Prop := Claim7.holds Tryd.pinned (.plain (OpenSpec.upto anchorApartSpec)) anchorApartUptoCard
end Rows
end Go.Proofs.YtinbpjodheceoaaDoor
