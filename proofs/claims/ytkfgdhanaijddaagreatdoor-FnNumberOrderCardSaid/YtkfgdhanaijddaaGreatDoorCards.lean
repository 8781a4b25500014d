/-
  DERIVED. GIVEN WITH THE SEED: THE CARDS: each row of YtkfgdhanaijddaaGreatDoorRows.lean that lists a variable, with what it lists TIED to the program's text (the seventh form; the later family's looks); each row that meets fmt, with fmt's text TOLD by the authors' own Lean function (tested against real Go, not proved from fmt's source: count such statements apart). THE CARD IS WHAT COUNTS. Prove the row's statement (the work); the ties are given (YtkfgdhanaijddaaGreatDoorTie.lean); close each card by the builder's one call (the guide's Derived/Test/ToyasCard.lean, 'card_holds'). Laid BY PROGRAM, IN A SANDBOX (cutbox-door.mjs). By AI agents, Wed Nov 11 2026. No macro, syntax, notation, axiom, sorry.
-/
import Derived.Test.YtkfgdhanaijddaaGreatDoorRows
import GoSem.ClaimSeven
namespace Go.Proofs.YtkfgdhanaijddaaGreatDoor
namespace Rows

/-- THE TIED CARD OF 'laws.FnThree'. -/
def fnThreeCard : Claim7 := { stood := { row := fnThreeRow, standIns := [], harness := (true, "60dc7040ae92ec386c6079771626270607e9da80e776a8905a20b69bfd17a1cd"), looks := false }, kinds := [], alts := [], laidByText := true, laidKinds := [.data, .data, .data], laidTests := true, laidLooks := .later }
def FnThreeCardSaid : Prop := Claim7.holds Tryz.pinned (.plain (OpenSpec.ofChange fnThreeSpec)) fnThreeCard

/-- THE TIED CARD OF 'laws.FnBent'. -/
def fnBentCard : Claim7 := { stood := { row := fnBentRow, standIns := [], harness := (true, "60dc7040ae92ec386c6079771626270607e9da80e776a8905a20b69bfd17a1cd"), looks := false }, kinds := [], alts := [], laidByText := true, laidKinds := [.data, .data, .data], laidTests := true, laidLooks := .later }
def FnBentCardSaid : Prop := Claim7.holds Tryz.pinned (.plain (OpenSpec.ofChange fnBentSpec)) fnBentCard

/-- THE TIED CARD OF 'laws.FnAhead'. -/
def fnAheadCard : Claim7 := { stood := { row := fnAheadRow, standIns := [], harness := (true, "60dc7040ae92ec386c6079771626270607e9da80e776a8905a20b69bfd17a1cd"), looks := false }, kinds := [], alts := [], laidByText := true, laidKinds := [.data, .data, .data], laidTests := true, laidLooks := .later }
def FnAheadCardSaid : Prop := Claim7.holds Tryz.pinned (.plain (OpenSpec.ofChange fnAheadSpec)) fnAheadCard

/-- THE TIED CARD OF 'laws.FnParts'. -/
def fnPartsCard : Claim7 := { stood := { row := fnPartsRow, standIns := [], harness := (true, "60dc7040ae92ec386c6079771626270607e9da80e776a8905a20b69bfd17a1cd"), looks := false }, kinds := [], alts := [], laidByText := true, laidKinds := [.data, .data, .data], laidTests := true, laidLooks := .later }
def FnPartsCardSaid : Prop := Claim7.holds Tryz.pinned (.plain (OpenSpec.ofChange fnPartsSpec)) fnPartsCard

/-- THE TIED CARD OF 'laws.FnNumberOrder'. -/
def fnNumberOrderCard : Claim7 := { stood := { row := fnNumberOrderRow, standIns := [], harness := (true, "60dc7040ae92ec386c6079771626270607e9da80e776a8905a20b69bfd17a1cd"), looks := false }, kinds := [], alts := [], laidByText := true, laidKinds := [.data, .data, .data], laidTests := true, laidLooks := .later }
def FnNumberOrderCardSaid : Prop := Claim7.holds Tryz.pinned (.plain (OpenSpec.ofChange fnNumberOrderSpec)) fnNumberOrderCard

/-- THE TIED CARD OF 'laws.FnNegOrder'. -/
def fnNegOrderCard : Claim7 := { stood := { row := fnNegOrderRow, standIns := [], harness := (true, "60dc7040ae92ec386c6079771626270607e9da80e776a8905a20b69bfd17a1cd"), looks := false }, kinds := [], alts := [], laidByText := true, laidKinds := [.data, .data, .data], laidTests := true, laidLooks := .later }
def FnNegOrderCardSaid : Prop := Claim7.holds Tryz.pinned (.plain (OpenSpec.ofChange fnNegOrderSpec)) fnNegOrderCard

/-- THE TIED CARD OF 'laws.FnOrdinal'. -/
def fnOrdinalCard : Claim7 := { stood := { row := fnOrdinalRow, standIns := [], harness := (true, "60dc7040ae92ec386c6079771626270607e9da80e776a8905a20b69bfd17a1cd"), looks := false }, kinds := [], alts := [], laidByText := true, laidKinds := [.data, .data, .data], laidTests := true, laidLooks := .later }
def FnOrdinalCardSaid : Prop := Claim7.holds Tryz.pinned (.plain (OpenSpec.ofChange fnOrdinalSpec)) fnOrdinalCard

/-- THE SECOND FORM's CARD OF 'laws.FnThree'. -/
def fnThreeUptoCard : Claim7 := { stood := { row := fnThreeUptoRow, standIns := [], harness := (true, "60dc7040ae92ec386c6079771626270607e9da80e776a8905a20b69bfd17a1cd"), looks := false }, kinds := [], alts := [], laidByText := true, laidKinds := [.data, .data, .data], laidTests := true, laidLooks := .later }
def FnThreeUptoCardSaid : Prop := Claim7.holds Tryz.pinned (.plain (OpenSpec.upto fnThreeSpec)) fnThreeUptoCard

/-- THE SECOND FORM's CARD OF 'laws.FnBent'. -/
def fnBentUptoCard : Claim7 := { stood := { row := fnBentUptoRow, standIns := [], harness := (true, "60dc7040ae92ec386c6079771626270607e9da80e776a8905a20b69bfd17a1cd"), looks := false }, kinds := [], alts := [], laidByText := true, laidKinds := [.data, .data, .data], laidTests := true, laidLooks := .later }
def FnBentUptoCardSaid : Prop := Claim7.holds Tryz.pinned (.plain (OpenSpec.upto fnBentSpec)) fnBentUptoCard

/-- THE SECOND FORM's CARD OF 'laws.FnAhead'. -/
def fnAheadUptoCard : Claim7 := { stood := { row := fnAheadUptoRow, standIns := [], harness := (true, "60dc7040ae92ec386c6079771626270607e9da80e776a8905a20b69bfd17a1cd"), looks := false }, kinds := [], alts := [], laidByText := true, laidKinds := [.data, .data, .data], laidTests := true, laidLooks := .later }
def FnAheadUptoCardSaid : Prop := Claim7.holds Tryz.pinned (.plain (OpenSpec.upto fnAheadSpec)) fnAheadUptoCard

/-- THE SECOND FORM's CARD OF 'laws.FnParts'. -/
def fnPartsUptoCard : Claim7 := { stood := { row := fnPartsUptoRow, standIns := [], harness := (true, "60dc7040ae92ec386c6079771626270607e9da80e776a8905a20b69bfd17a1cd"), looks := false }, kinds := [], alts := [], laidByText := true, laidKinds := [.data, .data, .data], laidTests := true, laidLooks := .later }
def FnPartsUptoCardSaid : Prop := Claim7.holds Tryz.pinned (.plain (OpenSpec.upto fnPartsSpec)) fnPartsUptoCard

/-- THE SECOND FORM's CARD OF 'laws.FnNumberOrder'. -/
def fnNumberOrderUptoCard : Claim7 := { stood := { row := fnNumberOrderUptoRow, standIns := [], harness := (true, "60dc7040ae92ec386c6079771626270607e9da80e776a8905a20b69bfd17a1cd"), looks := false }, kinds := [], alts := [], laidByText := true, laidKinds := [.data, .data, .data], laidTests := true, laidLooks := .later }
def FnNumberOrderUptoCardSaid : Prop := Claim7.holds Tryz.pinned (.plain (OpenSpec.upto fnNumberOrderSpec)) fnNumberOrderUptoCard

/-- THE SECOND FORM's CARD OF 'laws.FnNegOrder'. -/
def fnNegOrderUptoCard : Claim7 := { stood := { row := fnNegOrderUptoRow, standIns := [], harness := (true, "60dc7040ae92ec386c6079771626270607e9da80e776a8905a20b69bfd17a1cd"), looks := false }, kinds := [], alts := [], laidByText := true, laidKinds := [.data, .data, .data], laidTests := true, laidLooks := .later }
def FnNegOrderUptoCardSaid : Prop := Claim7.holds Tryz.pinned (.plain (OpenSpec.upto fnNegOrderSpec)) fnNegOrderUptoCard

/-- THE SECOND FORM's CARD OF 'laws.FnOrdinal'. -/
def fnOrdinalUptoCard : Claim7 := { stood := { row := fnOrdinalUptoRow, standIns := [], harness := (true, "60dc7040ae92ec386c6079771626270607e9da80e776a8905a20b69bfd17a1cd"), looks := false }, kinds := [], alts := [], laidByText := true, laidKinds := [.data, .data, .data], laidTests := true, laidLooks := .later }
def FnOrdinalUptoCardSaid : Prop := Claim7.holds Tryz.pinned (.plain (OpenSpec.upto fnOrdinalSpec)) fnOrdinalUptoCard
end Rows
end Go.Proofs.YtkfgdhanaijddaaGreatDoor
