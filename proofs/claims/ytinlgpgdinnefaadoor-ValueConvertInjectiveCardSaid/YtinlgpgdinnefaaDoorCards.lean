/-
  DERIVED. GIVEN WITH THE SEED: THE CARDS: each row of YtinlgpgdinnefaaDoorRows.lean that lists a variable, with what it lists TIED to the program's text (the seventh form; the later family's looks); each row that meets fmt, with fmt's text TOLD by the authors' own Lean function (tested against real Go, not proved from fmt's source: count such statements apart). THE CARD IS WHAT COUNTS. Prove the row's statement (the work); the ties are given (YtinlgpgdinnefaaDoorTie.lean); close each card by the builder's one call (the guide's Derived/Test/ToyasCard.lean, 'card_holds'). Laid BY PROGRAM, IN A SANDBOX (cutbox-door.mjs). By AI agents, Wed Nov 11 2026. No macro, syntax, notation, axiom, sorry.
-/
import Derived.Test.YtinlgpgdinnefaaDoorRows
import GoSem.ClaimSeven
namespace Go.Proofs.YtinlgpgdinnefaaDoor
namespace Rows

/-- THE TIED CARD OF 'stemkeep2.RelationUpsertFind'. -/
def relationUpsertFindCard : Claim7 := { stood := { row := relationUpsertFindRow, standIns := [], harness := (true, "c0147de319ab354aa1655157eaf14022478dae7b0037d00eed302b2aaed5b4b7"), looks := true }, kinds := [], alts := [], laidByText := true, laidKinds := [.data, .data, .data], laidTests := true, laidLooks := .later }
def RelationUpsertFindCardSaid : Prop := Claim7.holds Tryd.pinned (.plain (OpenSpec.ofChange relationUpsertFindSpec)) relationUpsertFindCard

/-- THE TIED CARD OF 'stemkeep2.RelationUpsertCommutes'. -/
def relationUpsertCommutesCard : Claim7 := { stood := { row := relationUpsertCommutesRow, standIns := [], harness := (true, "c0147de319ab354aa1655157eaf14022478dae7b0037d00eed302b2aaed5b4b7"), looks := true }, kinds := [], alts := [], laidByText := true, laidKinds := [.data, .data, .data], laidTests := true, laidLooks := .later }
def RelationUpsertCommutesCardSaid : Prop := Claim7.holds Tryd.pinned (.plain (OpenSpec.ofChange relationUpsertCommutesSpec)) relationUpsertCommutesCard

/-- THE TIED CARD OF 'stemkeep2.SchemaCloneIndependent'. -/
def schemaCloneIndependentCard : Claim7 := { stood := { row := schemaCloneIndependentRow, standIns := [], harness := (true, "c0147de319ab354aa1655157eaf14022478dae7b0037d00eed302b2aaed5b4b7"), looks := true }, kinds := [], alts := [], laidByText := true, laidKinds := [.data, .data, .data], laidTests := true, laidLooks := .later }
def SchemaCloneIndependentCardSaid : Prop := Claim7.holds Tryd.pinned (.plain (OpenSpec.ofChange schemaCloneIndependentSpec)) schemaCloneIndependentCard

/-- THE TIED CARD OF 'stemkeep2.ValueOrderTotal'. -/
def valueOrderTotalCard : Claim7 := { stood := { row := valueOrderTotalRow, standIns := [], harness := (true, "c0147de319ab354aa1655157eaf14022478dae7b0037d00eed302b2aaed5b4b7"), looks := true }, kinds := [], alts := [], laidByText := true, laidKinds := [.data, .data, .data, .sentinel, .sentinel], laidTests := true, laidLooks := .later }
def ValueOrderTotalCardSaid : Prop := Claim7.holds Tryd.pinned (.plain (OpenSpec.ofChange valueOrderTotalSpec)) valueOrderTotalCard

/-- THE TIED CARD OF 'stemkeep2.ValueConvertInverse'. -/
def valueConvertInverseCard : Claim7 := { stood := { row := valueConvertInverseRow, standIns := [], harness := (true, "c0147de319ab354aa1655157eaf14022478dae7b0037d00eed302b2aaed5b4b7"), looks := true }, kinds := [], alts := [], laidByText := true, laidKinds := [.data, .data, .data, .sentinel, .sentinel], laidTests := true, laidLooks := .later }
def ValueConvertInverseCardSaid : Prop := Claim7.holds Tryd.pinned (.plain (OpenSpec.ofChange valueConvertInverseSpec)) valueConvertInverseCard

/-- THE TIED CARD OF 'stemkeep2.ValueConvertInjective'. -/
def valueConvertInjectiveCard : Claim7 := { stood := { row := valueConvertInjectiveRow, standIns := [], harness := (true, "c0147de319ab354aa1655157eaf14022478dae7b0037d00eed302b2aaed5b4b7"), looks := true }, kinds := [], alts := [], laidByText := true, laidKinds := [.data, .data, .data, .sentinel, .sentinel], laidTests := true, laidLooks := .later }
def ValueConvertInjectiveCardSaid : Prop := Claim7.holds Tryd.pinned (.plain (OpenSpec.ofChange valueConvertInjectiveSpec)) valueConvertInjectiveCard

/-- THE TIED CARD OF 'stemkeep2.ValuePredicates'. -/
def valuePredicatesCard : Claim7 := { stood := { row := valuePredicatesRow, standIns := [], harness := (true, "c0147de319ab354aa1655157eaf14022478dae7b0037d00eed302b2aaed5b4b7"), looks := true }, kinds := [], alts := [], laidByText := true, laidKinds := [.data, .data, .data, .sentinel, .sentinel], laidTests := true, laidLooks := .later }
def ValuePredicatesCardSaid : Prop := Claim7.holds Tryd.pinned (.plain (OpenSpec.ofChange valuePredicatesSpec)) valuePredicatesCard

/-- THE TIED CARD OF 'stemkeep2.ChangeCompactSame'. -/
def changeCompactSameCard : Claim7 := { stood := { row := changeCompactSameRow, standIns := [], harness := (true, "c0147de319ab354aa1655157eaf14022478dae7b0037d00eed302b2aaed5b4b7"), looks := true }, kinds := [], alts := [], laidByText := true, laidKinds := [.data, .data, .data], laidTests := true, laidLooks := .later }
def ChangeCompactSameCardSaid : Prop := Claim7.holds Tryd.pinned (.plain (OpenSpec.ofChange changeCompactSameSpec)) changeCompactSameCard

/-- THE TIED CARD OF 'stemkeep2.ChangeIndependentCommute'. -/
def changeIndependentCommuteCard : Claim7 := { stood := { row := changeIndependentCommuteRow, standIns := [], harness := (true, "c0147de319ab354aa1655157eaf14022478dae7b0037d00eed302b2aaed5b4b7"), looks := true }, kinds := [], alts := [], laidByText := true, laidKinds := [.data, .data, .data], laidTests := true, laidLooks := .later }
def ChangeIndependentCommuteCardSaid : Prop := Claim7.holds Tryd.pinned (.plain (OpenSpec.ofChange changeIndependentCommuteSpec)) changeIndependentCommuteCard

/-- THE TIED CARD OF 'stemkeep2.ArgumentsUnchanged'. -/
def argumentsUnchangedCard : Claim7 := { stood := { row := argumentsUnchangedRow, standIns := [], harness := (true, "c0147de319ab354aa1655157eaf14022478dae7b0037d00eed302b2aaed5b4b7"), looks := true }, kinds := [], alts := [], laidByText := true, laidKinds := [.data, .data, .data], laidTests := true, laidLooks := .later }
def ArgumentsUnchangedCardSaid : Prop := Claim7.holds Tryd.pinned (.plain (OpenSpec.ofChange argumentsUnchangedSpec)) argumentsUnchangedCard

/-- THE SECOND FORM's CARD OF 'stemkeep2.RelationUpsertFind'. -/
def relationUpsertFindUptoCard : Claim7 := { stood := { row := relationUpsertFindUptoRow, standIns := [], harness := (true, "c0147de319ab354aa1655157eaf14022478dae7b0037d00eed302b2aaed5b4b7"), looks := true }, kinds := [], alts := [], laidByText := true, laidKinds := [.data, .data, .data], laidTests := true, laidLooks := .later }
def RelationUpsertFindUptoCardSaid : Prop := Claim7.holds Tryd.pinned (.plain (OpenSpec.upto relationUpsertFindSpec)) relationUpsertFindUptoCard

/-- THE SECOND FORM's CARD OF 'stemkeep2.RelationUpsertCommutes'. -/
def relationUpsertCommutesUptoCard : Claim7 := { stood := { row := relationUpsertCommutesUptoRow, standIns := [], harness := (true, "c0147de319ab354aa1655157eaf14022478dae7b0037d00eed302b2aaed5b4b7"), looks := true }, kinds := [], alts := [], laidByText := true, laidKinds := [.data, .data, .data], laidTests := true, laidLooks := .later }
def RelationUpsertCommutesUptoCardSaid : Prop := Claim7.holds Tryd.pinned (.plain (OpenSpec.upto relationUpsertCommutesSpec)) relationUpsertCommutesUptoCard

/-- THE SECOND FORM's CARD OF 'stemkeep2.SchemaCloneIndependent'. -/
def schemaCloneIndependentUptoCard : Claim7 := { stood := { row := schemaCloneIndependentUptoRow, standIns := [], harness := (true, "c0147de319ab354aa1655157eaf14022478dae7b0037d00eed302b2aaed5b4b7"), looks := true }, kinds := [], alts := [], laidByText := true, laidKinds := [.data, .data, .data], laidTests := true, laidLooks := .later }
def SchemaCloneIndependentUptoCardSaid : Prop := Claim7.holds Tryd.pinned (.plain (OpenSpec.upto schemaCloneIndependentSpec)) schemaCloneIndependentUptoCard

/-- THE SECOND FORM's CARD OF 'stemkeep2.ValueOrderTotal'. -/
def valueOrderTotalUptoCard : Claim7 := { stood := { row := valueOrderTotalUptoRow, standIns := [], harness := (true, "c0147de319ab354aa1655157eaf14022478dae7b0037d00eed302b2aaed5b4b7"), looks := true }, kinds := [], alts := [], laidByText := true, laidKinds := [.data, .data, .data, .sentinel, .sentinel], laidTests := true, laidLooks := .later }
def ValueOrderTotalUptoCardSaid : Prop := Claim7.holds Tryd.pinned (.plain (OpenSpec.upto valueOrderTotalSpec)) valueOrderTotalUptoCard

/-- THE SECOND FORM's CARD OF 'stemkeep2.ValueConvertInverse'. -/
def valueConvertInverseUptoCard : Claim7 := { stood := { row := valueConvertInverseUptoRow, standIns := [], harness := (true, "c0147de319ab354aa1655157eaf14022478dae7b0037d00eed302b2aaed5b4b7"), looks := true }, kinds := [], alts := [], laidByText := true, laidKinds := [.data, .data, .data, .sentinel, .sentinel], laidTests := true, laidLooks := .later }
def ValueConvertInverseUptoCardSaid : Prop := Claim7.holds Tryd.pinned (.plain (OpenSpec.upto valueConvertInverseSpec)) valueConvertInverseUptoCard

/-- THE SECOND FORM's CARD OF 'stemkeep2.ValueConvertInjective'. -/
def valueConvertInjectiveUptoCard : Claim7 := { stood := { row := valueConvertInjectiveUptoRow, standIns := [], harness := (true, "c0147de319ab354aa1655157eaf14022478dae7b0037d00eed302b2aaed5b4b7"), looks := true }, kinds := [], alts := [], laidByText := true, laidKinds := [.data, .data, .data, .sentinel, .sentinel], laidTests := true, laidLooks := .later }
def ValueConvertInjectiveUptoCardSaid : Prop := Claim7.holds Tryd.pinned (.plain (OpenSpec.upto valueConvertInjectiveSpec)) valueConvertInjectiveUptoCard

/-- THE SECOND FORM's CARD OF 'stemkeep2.ValuePredicates'. -/
def valuePredicatesUptoCard : Claim7 := { stood := { row := valuePredicatesUptoRow, standIns := [], harness := (true, "c0147de319ab354aa1655157eaf14022478dae7b0037d00eed302b2aaed5b4b7"), looks := true }, kinds := [], alts := [], laidByText := true, laidKinds := [.data, .data, .data, .sentinel, .sentinel], laidTests := true, laidLooks := .later }
def ValuePredicatesUptoCardSaid : Prop := Claim7.holds Tryd.pinned (.plain (OpenSpec.upto valuePredicatesSpec)) valuePredicatesUptoCard

/-- THE SECOND FORM's CARD OF 'stemkeep2.ChangeCompactSame'. -/
def changeCompactSameUptoCard : Claim7 := { stood := { row := changeCompactSameUptoRow, standIns := [], harness := (true, "c0147de319ab354aa1655157eaf14022478dae7b0037d00eed302b2aaed5b4b7"), looks := true }, kinds := [], alts := [], laidByText := true, laidKinds := [.data, .data, .data], laidTests := true, laidLooks := .later }
def ChangeCompactSameUptoCardSaid : Prop := Claim7.holds Tryd.pinned (.plain (OpenSpec.upto changeCompactSameSpec)) changeCompactSameUptoCard

/-- THE SECOND FORM's CARD OF 'stemkeep2.ChangeIndependentCommute'. -/
def changeIndependentCommuteUptoCard : Claim7 := { stood := { row := changeIndependentCommuteUptoRow, standIns := [], harness := (true, "c0147de319ab354aa1655157eaf14022478dae7b0037d00eed302b2aaed5b4b7"), looks := true }, kinds := [], alts := [], laidByText := true, laidKinds := [.data, .data, .data], laidTests := true, laidLooks := .later }
def ChangeIndependentCommuteUptoCardSaid : Prop := Claim7.holds Tryd.pinned (.plain (OpenSpec.upto changeIndependentCommuteSpec)) changeIndependentCommuteUptoCard

/-- THE SECOND FORM's CARD OF 'stemkeep2.ArgumentsUnchanged'. -/
def argumentsUnchangedUptoCard : Claim7 := { stood := { row := argumentsUnchangedUptoRow, standIns := [], harness := (true, "c0147de319ab354aa1655157eaf14022478dae7b0037d00eed302b2aaed5b4b7"), looks := true }, kinds := [], alts := [], laidByText := true, laidKinds := [.data, .data, .data], laidTests := true, laidLooks := .later }
def ArgumentsUnchangedUptoCardSaid : Prop := Claim7.holds Tryd.pinned (.plain (OpenSpec.upto argumentsUnchangedSpec)) argumentsUnchangedUptoCard
end Rows
end Go.Proofs.YtinlgpgdinnefaaDoor
