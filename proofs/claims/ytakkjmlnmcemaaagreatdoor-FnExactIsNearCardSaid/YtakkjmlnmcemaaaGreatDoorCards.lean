/-
  DERIVED. GIVEN WITH THE SEED: THE CARDS: each row of YtakkjmlnmcemaaaGreatDoorRows.lean that lists a variable, with what it lists TIED to the program's text (the seventh form; the later family's looks); each row that meets fmt, with fmt's text TOLD by the authors' own Lean function (tested against real Go, not proved from fmt's source: count such statements apart). THE CARD IS WHAT COUNTS. Prove the row's statement (the work); the ties are given (YtakkjmlnmcemaaaGreatDoorTie.lean); close each card by the builder's one call (the guide's Derived/Test/ToyasCard.lean, 'card_holds'). Laid BY PROGRAM, IN A SANDBOX (cutbox-door.mjs). By AI agents, Wed Nov 11 2026. No macro, syntax, notation, axiom, sorry.
-/
import Derived.Test.YtakkjmlnmcemaaaGreatDoorRows
import GoSem.ClaimSeven
namespace Go.Proofs.YtakkjmlnmcemaaaGreatDoor
namespace Rows

/-- THE TIED CARD OF 'laws.FnExactLeftStop'. -/
def fnExactLeftStopCard : Claim7 := { stood := { row := fnExactLeftStopRow, standIns := [], harness := (true, "5b8eb7db8275d11e9a5d8b30f2561acef869a8daab065eeba205a08083cc091f"), looks := false }, kinds := [], alts := [], laidByText := true, laidKinds := [.data, .data, .data], laidTests := true, laidLooks := .later }
def FnExactLeftStopCardSaid : Prop := Claim7.holds Tryz.pinned (.plain (OpenSpec.ofChange fnExactLeftStopSpec)) fnExactLeftStopCard

/-- THE TIED CARD OF 'laws.FnExactRightStop'. -/
def fnExactRightStopCard : Claim7 := { stood := { row := fnExactRightStopRow, standIns := [], harness := (true, "5b8eb7db8275d11e9a5d8b30f2561acef869a8daab065eeba205a08083cc091f"), looks := false }, kinds := [], alts := [], laidByText := true, laidKinds := [.data, .data, .data], laidTests := true, laidLooks := .later }
def FnExactRightStopCardSaid : Prop := Claim7.holds Tryz.pinned (.plain (OpenSpec.ofChange fnExactRightStopSpec)) fnExactRightStopCard

/-- THE TIED CARD OF 'laws.FnExactIsHot'. -/
def fnExactIsHotCard : Claim7 := { stood := { row := fnExactIsHotRow, standIns := [], harness := (true, "5b8eb7db8275d11e9a5d8b30f2561acef869a8daab065eeba205a08083cc091f"), looks := false }, kinds := [], alts := [], laidByText := true, laidKinds := [.data, .data, .data], laidTests := true, laidLooks := .later }
def FnExactIsHotCardSaid : Prop := Claim7.holds Tryz.pinned (.plain (OpenSpec.ofChange fnExactIsHotSpec)) fnExactIsHotCard

/-- THE TIED CARD OF 'laws.FnExactIsNear'. -/
def fnExactIsNearCard : Claim7 := { stood := { row := fnExactIsNearRow, standIns := [], harness := (true, "5b8eb7db8275d11e9a5d8b30f2561acef869a8daab065eeba205a08083cc091f"), looks := false }, kinds := [], alts := [], laidByText := true, laidKinds := [.data, .data, .data], laidTests := true, laidLooks := .later }
def FnExactIsNearCardSaid : Prop := Claim7.holds Tryz.pinned (.plain (OpenSpec.ofChange fnExactIsNearSpec)) fnExactIsNearCard

/-- THE TIED CARD OF 'laws.FnExactNearOf'. -/
def fnExactNearOfCard : Claim7 := { stood := { row := fnExactNearOfRow, standIns := [], harness := (true, "5b8eb7db8275d11e9a5d8b30f2561acef869a8daab065eeba205a08083cc091f"), looks := false }, kinds := [], alts := [], laidByText := true, laidKinds := [.data, .data, .data], laidTests := true, laidLooks := .later }
def FnExactNearOfCardSaid : Prop := Claim7.holds Tryz.pinned (.plain (OpenSpec.ofChange fnExactNearOfSpec)) fnExactNearOfCard

/-- THE TIED CARD OF 'laws.FnExactSwitchOf'. -/
def fnExactSwitchOfCard : Claim7 := { stood := { row := fnExactSwitchOfRow, standIns := [], harness := (true, "5b8eb7db8275d11e9a5d8b30f2561acef869a8daab065eeba205a08083cc091f"), looks := false }, kinds := [], alts := [], laidByText := true, laidKinds := [.data, .data, .data], laidTests := true, laidLooks := .later }
def FnExactSwitchOfCardSaid : Prop := Claim7.holds Tryz.pinned (.plain (OpenSpec.ofChange fnExactSwitchOfSpec)) fnExactSwitchOfCard

/-- THE SECOND FORM's CARD OF 'laws.FnExactLeftStop'. -/
def fnExactLeftStopUptoCard : Claim7 := { stood := { row := fnExactLeftStopUptoRow, standIns := [], harness := (true, "5b8eb7db8275d11e9a5d8b30f2561acef869a8daab065eeba205a08083cc091f"), looks := false }, kinds := [], alts := [], laidByText := true, laidKinds := [.data, .data, .data], laidTests := true, laidLooks := .later }
def FnExactLeftStopUptoCardSaid : Prop := Claim7.holds Tryz.pinned (.plain (OpenSpec.upto fnExactLeftStopSpec)) fnExactLeftStopUptoCard

/-- THE SECOND FORM's CARD OF 'laws.FnExactRightStop'. -/
def fnExactRightStopUptoCard : Claim7 := { stood := { row := fnExactRightStopUptoRow, standIns := [], harness := (true, "5b8eb7db8275d11e9a5d8b30f2561acef869a8daab065eeba205a08083cc091f"), looks := false }, kinds := [], alts := [], laidByText := true, laidKinds := [.data, .data, .data], laidTests := true, laidLooks := .later }
def FnExactRightStopUptoCardSaid : Prop := Claim7.holds Tryz.pinned (.plain (OpenSpec.upto fnExactRightStopSpec)) fnExactRightStopUptoCard

/-- THE SECOND FORM's CARD OF 'laws.FnExactIsHot'. -/
def fnExactIsHotUptoCard : Claim7 := { stood := { row := fnExactIsHotUptoRow, standIns := [], harness := (true, "5b8eb7db8275d11e9a5d8b30f2561acef869a8daab065eeba205a08083cc091f"), looks := false }, kinds := [], alts := [], laidByText := true, laidKinds := [.data, .data, .data], laidTests := true, laidLooks := .later }
def FnExactIsHotUptoCardSaid : Prop := Claim7.holds Tryz.pinned (.plain (OpenSpec.upto fnExactIsHotSpec)) fnExactIsHotUptoCard

/-- THE SECOND FORM's CARD OF 'laws.FnExactIsNear'. -/
def fnExactIsNearUptoCard : Claim7 := { stood := { row := fnExactIsNearUptoRow, standIns := [], harness := (true, "5b8eb7db8275d11e9a5d8b30f2561acef869a8daab065eeba205a08083cc091f"), looks := false }, kinds := [], alts := [], laidByText := true, laidKinds := [.data, .data, .data], laidTests := true, laidLooks := .later }
def FnExactIsNearUptoCardSaid : Prop := Claim7.holds Tryz.pinned (.plain (OpenSpec.upto fnExactIsNearSpec)) fnExactIsNearUptoCard

/-- THE SECOND FORM's CARD OF 'laws.FnExactNearOf'. -/
def fnExactNearOfUptoCard : Claim7 := { stood := { row := fnExactNearOfUptoRow, standIns := [], harness := (true, "5b8eb7db8275d11e9a5d8b30f2561acef869a8daab065eeba205a08083cc091f"), looks := false }, kinds := [], alts := [], laidByText := true, laidKinds := [.data, .data, .data], laidTests := true, laidLooks := .later }
def FnExactNearOfUptoCardSaid : Prop := Claim7.holds Tryz.pinned (.plain (OpenSpec.upto fnExactNearOfSpec)) fnExactNearOfUptoCard

/-- THE SECOND FORM's CARD OF 'laws.FnExactSwitchOf'. -/
def fnExactSwitchOfUptoCard : Claim7 := { stood := { row := fnExactSwitchOfUptoRow, standIns := [], harness := (true, "5b8eb7db8275d11e9a5d8b30f2561acef869a8daab065eeba205a08083cc091f"), looks := false }, kinds := [], alts := [], laidByText := true, laidKinds := [.data, .data, .data], laidTests := true, laidLooks := .later }
def FnExactSwitchOfUptoCardSaid : Prop := Claim7.holds Tryz.pinned (.plain (OpenSpec.upto fnExactSwitchOfSpec)) fnExactSwitchOfUptoCard
end Rows
end Go.Proofs.YtakkjmlnmcemaaaGreatDoor
