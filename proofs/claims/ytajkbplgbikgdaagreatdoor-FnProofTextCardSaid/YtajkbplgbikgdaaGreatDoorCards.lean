/-
  DERIVED. GIVEN WITH THE SEED: THE CARDS: each row of YtajkbplgbikgdaaGreatDoorRows.lean that lists a variable, with what it lists TIED to the program's text (the seventh form; the later family's looks); each row that meets fmt, with fmt's text TOLD by the authors' own Lean function (tested against real Go, not proved from fmt's source: count such statements apart). THE CARD IS WHAT COUNTS. Prove the row's statement (the work); the ties are given (YtajkbplgbikgdaaGreatDoorTie.lean); close each card by the builder's one call (the guide's Derived/Test/ToyasCard.lean, 'card_holds'). Laid BY PROGRAM, IN A SANDBOX (cutbox-door.mjs). By AI agents, Wed Nov 11 2026. No macro, syntax, notation, axiom, sorry.
-/
import Derived.Test.YtajkbplgbikgdaaGreatDoorRows
import GoSem.ClaimSeven
namespace Go.Proofs.YtajkbplgbikgdaaGreatDoor
namespace Rows

/-- THE TIED CARD OF 'laws.FnOrdinal'. -/
def fnOrdinalCard : Claim7 := { stood := { row := fnOrdinalRow, standIns := [], harness := (true, "53b0b64773f00fd2ed2c6aec0a4789789daf509c599175de29b5bdd69c95c5e0"), looks := true }, kinds := [], alts := [], laidByText := true, laidKinds := [.data, .data, .data], laidTests := true, laidLooks := .later }
def FnOrdinalCardSaid : Prop := Claim7.holds Tryz.pinned (.plain (OpenSpec.ofChange fnOrdinalSpec)) fnOrdinalCard

/-- THE TIED CARD OF 'laws.FnProofText'. -/
def fnProofTextCard : Claim7 := { stood := { row := fnProofTextRow, standIns := [], harness := (true, "53b0b64773f00fd2ed2c6aec0a4789789daf509c599175de29b5bdd69c95c5e0"), looks := true }, kinds := [], alts := [], laidByText := true, laidKinds := [.data, .data, .data, .data, .sentinel, .sentinel, .pinned], laidTests := true, laidLooks := .later }
def FnProofTextCardSaid : Prop := Claim7.holds Tryz.pinned (.plain (OpenSpec.ofChange fnProofTextSpec)) fnProofTextCard

/-- THE TIED CARD OF 'laws.FnExactPositionParts'. -/
def fnExactPositionPartsCard : Claim7 := { stood := { row := fnExactPositionPartsRow, standIns := [], harness := (true, "53b0b64773f00fd2ed2c6aec0a4789789daf509c599175de29b5bdd69c95c5e0"), looks := true }, kinds := [], alts := [], laidByText := true, laidKinds := [.data, .pinned], laidTests := true, laidLooks := .later }
def FnExactPositionPartsCardSaid : Prop := Claim7.holds Tryz.pinned (.plain (OpenSpec.ofChange fnExactPositionPartsSpec)) fnExactPositionPartsCard

/-- THE TIED CARD OF 'laws.FnExactPositionMoves'. -/
def fnExactPositionMovesCard : Claim7 := { stood := { row := fnExactPositionMovesRow, standIns := [], harness := (true, "53b0b64773f00fd2ed2c6aec0a4789789daf509c599175de29b5bdd69c95c5e0"), looks := true }, kinds := [], alts := [], laidByText := true, laidKinds := [.data, .data, .data, .data, .pinned], laidTests := true, laidLooks := .later }
def FnExactPositionMovesCardSaid : Prop := Claim7.holds Tryz.pinned (.plain (OpenSpec.ofChange fnExactPositionMovesSpec)) fnExactPositionMovesCard

/-- THE SECOND FORM's CARD OF 'laws.FnOrdinal'. -/
def fnOrdinalUptoCard : Claim7 := { stood := { row := fnOrdinalUptoRow, standIns := [], harness := (true, "53b0b64773f00fd2ed2c6aec0a4789789daf509c599175de29b5bdd69c95c5e0"), looks := true }, kinds := [], alts := [], laidByText := true, laidKinds := [.data, .data, .data], laidTests := true, laidLooks := .later }
def FnOrdinalUptoCardSaid : Prop := Claim7.holds Tryz.pinned (.plain (OpenSpec.upto fnOrdinalSpec)) fnOrdinalUptoCard

/-- THE SECOND FORM's CARD OF 'laws.FnProofText'. -/
def fnProofTextUptoCard : Claim7 := { stood := { row := fnProofTextUptoRow, standIns := [], harness := (true, "53b0b64773f00fd2ed2c6aec0a4789789daf509c599175de29b5bdd69c95c5e0"), looks := true }, kinds := [], alts := [], laidByText := true, laidKinds := [.data, .data, .data, .data, .sentinel, .sentinel, .pinned], laidTests := true, laidLooks := .later }
def FnProofTextUptoCardSaid : Prop := Claim7.holds Tryz.pinned (.plain (OpenSpec.upto fnProofTextSpec)) fnProofTextUptoCard

/-- THE SECOND FORM's CARD OF 'laws.FnExactPositionParts'. -/
def fnExactPositionPartsUptoCard : Claim7 := { stood := { row := fnExactPositionPartsUptoRow, standIns := [], harness := (true, "53b0b64773f00fd2ed2c6aec0a4789789daf509c599175de29b5bdd69c95c5e0"), looks := true }, kinds := [], alts := [], laidByText := true, laidKinds := [.data, .pinned], laidTests := true, laidLooks := .later }
def FnExactPositionPartsUptoCardSaid : Prop := Claim7.holds Tryz.pinned (.plain (OpenSpec.upto fnExactPositionPartsSpec)) fnExactPositionPartsUptoCard

/-- THE SECOND FORM's CARD OF 'laws.FnExactPositionMoves'. -/
def fnExactPositionMovesUptoCard : Claim7 := { stood := { row := fnExactPositionMovesUptoRow, standIns := [], harness := (true, "53b0b64773f00fd2ed2c6aec0a4789789daf509c599175de29b5bdd69c95c5e0"), looks := true }, kinds := [], alts := [], laidByText := true, laidKinds := [.data, .data, .data, .data, .pinned], laidTests := true, laidLooks := .later }
def FnExactPositionMovesUptoCardSaid : Prop := Claim7.holds Tryz.pinned (.plain (OpenSpec.upto fnExactPositionMovesSpec)) fnExactPositionMovesUptoCard
end Rows
end Go.Proofs.YtajkbplgbikgdaaGreatDoor
