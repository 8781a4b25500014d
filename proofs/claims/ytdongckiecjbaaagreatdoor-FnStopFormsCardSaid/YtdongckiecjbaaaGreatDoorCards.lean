/-
  DERIVED. GIVEN WITH THE SEED: THE CARDS: each row of YtdongckiecjbaaaGreatDoorRows.lean that lists a variable, with what it lists TIED to the program's text (the seventh form; the later family's looks); each row that meets fmt, with fmt's text TOLD by the authors' own Lean function (tested against real Go, not proved from fmt's source: count such statements apart). THE CARD IS WHAT COUNTS. Prove the row's statement (the work); the ties are given (YtdongckiecjbaaaGreatDoorTie.lean); close each card by the builder's one call (the guide's Derived/Test/ToyasCard.lean, 'card_holds'). Laid BY PROGRAM, IN A SANDBOX (cutbox-door.mjs). By AI agents, Wed Nov 11 2026. No macro, syntax, notation, axiom, sorry.
-/
import Derived.Test.YtdongckiecjbaaaGreatDoorRows
import GoSem.ClaimSeven
namespace Go.Proofs.YtdongckiecjbaaaGreatDoor
namespace Rows

/-- THE TIED CARD OF 'laws.FnStopForms'. -/
def fnStopFormsCard : Claim7 := { stood := { row := fnStopFormsRow, standIns := [], harness := (true, "5422724aa076ff6b21c2bdae20489dfb8090e15c8343305b3c8c12acc2c1d5c0"), looks := false }, kinds := [], alts := [], laidByText := true, laidKinds := [.data, .data, .data], laidTests := true, laidLooks := .later }
def FnStopFormsCardSaid : Prop := Claim7.holds Tryz.pinned (.plain (OpenSpec.ofChange fnStopFormsSpec)) fnStopFormsCard

/-- THE SECOND FORM's CARD OF 'laws.FnStopForms'. -/
def fnStopFormsUptoCard : Claim7 := { stood := { row := fnStopFormsUptoRow, standIns := [], harness := (true, "5422724aa076ff6b21c2bdae20489dfb8090e15c8343305b3c8c12acc2c1d5c0"), looks := false }, kinds := [], alts := [], laidByText := true, laidKinds := [.data, .data, .data], laidTests := true, laidLooks := .later }
def FnStopFormsUptoCardSaid : Prop := Claim7.holds Tryz.pinned (.plain (OpenSpec.upto fnStopFormsSpec)) fnStopFormsUptoCard
end Rows
end Go.Proofs.YtdongckiecjbaaaGreatDoor
