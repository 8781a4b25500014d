/-
  DERIVED. GIVEN WITH THE SEED: THE CARDS: each row of YtianphgdbfekdaaGreatDoorRows.lean that lists a variable, with what it lists TIED to the program's text (the seventh form; the later family's looks); each row that meets fmt, with fmt's text TOLD by the authors' own Lean function (tested against real Go, not proved from fmt's source: count such statements apart). THE CARD IS WHAT COUNTS. Prove the row's statement (the work); the ties are given (YtianphgdbfekdaaGreatDoorTie.lean); close each card by the builder's one call (the guide's Derived/Test/ToyasCard.lean, 'card_holds'). Laid BY PROGRAM, IN A SANDBOX (cutbox-door.mjs). By AI agents, Wed Nov 11 2026. No macro, syntax, notation, axiom, sorry.
-/
import Derived.Test.YtianphgdbfekdaaGreatDoorRows
import GoSem.ClaimSeven
namespace Go.Proofs.YtianphgdbfekdaaGreatDoor
namespace Rows

/-- THE TIED CARD OF 'laws.FnExactPositionParts'. -/
def fnExactPositionPartsCard : Claim7 := { stood := { row := fnExactPositionPartsRow, standIns := [], harness := (true, "a2b13d0727076521c806dde5af7f676b596717338450dacb51d699020e40f874"), looks := false }, kinds := [], alts := [], laidByText := true, laidKinds := [.data, .pinned], laidTests := true, laidLooks := .later }
def FnExactPositionPartsCardSaid : Prop := Claim7.holds Tryz.pinned (.plain (OpenSpec.ofChange fnExactPositionPartsSpec)) fnExactPositionPartsCard

/-- THE TIED CARD OF 'laws.FnExactPositionMoves'. -/
def fnExactPositionMovesCard : Claim7 := { stood := { row := fnExactPositionMovesRow, standIns := [], harness := (true, "a2b13d0727076521c806dde5af7f676b596717338450dacb51d699020e40f874"), looks := false }, kinds := [], alts := [], laidByText := true, laidKinds := [.data, .data, .data, .data, .pinned], laidTests := true, laidLooks := .later }
def FnExactPositionMovesCardSaid : Prop := Claim7.holds Tryz.pinned (.plain (OpenSpec.ofChange fnExactPositionMovesSpec)) fnExactPositionMovesCard

/-- THE SECOND FORM's CARD OF 'laws.FnExactPositionParts'. -/
def fnExactPositionPartsUptoCard : Claim7 := { stood := { row := fnExactPositionPartsUptoRow, standIns := [], harness := (true, "a2b13d0727076521c806dde5af7f676b596717338450dacb51d699020e40f874"), looks := false }, kinds := [], alts := [], laidByText := true, laidKinds := [.data, .pinned], laidTests := true, laidLooks := .later }
def FnExactPositionPartsUptoCardSaid : Prop := Claim7.holds Tryz.pinned (.plain (OpenSpec.upto fnExactPositionPartsSpec)) fnExactPositionPartsUptoCard

/-- THE SECOND FORM's CARD OF 'laws.FnExactPositionMoves'. -/
def fnExactPositionMovesUptoCard : Claim7 := { stood := { row := fnExactPositionMovesUptoRow, standIns := [], harness := (true, "a2b13d0727076521c806dde5af7f676b596717338450dacb51d699020e40f874"), looks := false }, kinds := [], alts := [], laidByText := true, laidKinds := [.data, .data, .data, .data, .pinned], laidTests := true, laidLooks := .later }
def FnExactPositionMovesUptoCardSaid : Prop := Claim7.holds Tryz.pinned (.plain (OpenSpec.upto fnExactPositionMovesSpec)) fnExactPositionMovesUptoCard
end Rows
end Go.Proofs.YtianphgdbfekdaaGreatDoor
