/-
  DERIVED. GIVEN WITH THE SEED: THE CARDS: each row of YtbfhkngkfadmnaaGreatDoorRows.lean that lists a variable, with what it lists TIED to the program's text (the seventh form; the later family's looks); each row that meets fmt, with fmt's text TOLD by the authors' own Lean function (tested against real Go, not proved from fmt's source: count such statements apart). THE CARD IS WHAT COUNTS. Prove the row's statement (the work); the ties are given (YtbfhkngkfadmnaaGreatDoorTie.lean); close each card by the builder's one call (the guide's Derived/Test/ToyasCard.lean, 'card_holds'). Laid BY PROGRAM, IN A SANDBOX (cutbox-door.mjs). By AI agents, Wed Nov 11 2026. No macro, syntax, notation, axiom, sorry.
-/
import Derived.Test.YtbfhkngkfadmnaaGreatDoorRows
import GoSem.ClaimSeven
namespace Go.Proofs.YtbfhkngkfadmnaaGreatDoor
namespace Rows

/-- THE TIED CARD OF 'laws.FnExactReadForm'. -/
def fnExactReadFormCard : Claim7 := { stood := { row := fnExactReadFormRow, standIns := [], harness := (true, "6f908f42fb0569146658889fb5c55a9e22ee826753450af01cafbcad8b097662"), looks := false }, kinds := [], alts := [], laidByText := true, laidKinds := [.data, .data, .data], laidTests := true, laidLooks := .later }
def FnExactReadFormCardSaid : Prop := Claim7.holds Tryz.pinned (.plain (OpenSpec.ofChange fnExactReadFormSpec)) fnExactReadFormCard

/-- THE SECOND FORM's CARD OF 'laws.FnExactReadForm'. -/
def fnExactReadFormUptoCard : Claim7 := { stood := { row := fnExactReadFormUptoRow, standIns := [], harness := (true, "6f908f42fb0569146658889fb5c55a9e22ee826753450af01cafbcad8b097662"), looks := false }, kinds := [], alts := [], laidByText := true, laidKinds := [.data, .data, .data], laidTests := true, laidLooks := .later }
def FnExactReadFormUptoCardSaid : Prop := Claim7.holds Tryz.pinned (.plain (OpenSpec.upto fnExactReadFormSpec)) fnExactReadFormUptoCard
end Rows
end Go.Proofs.YtbfhkngkfadmnaaGreatDoor
