/-
  DERIVED. GIVEN WITH THE SEED: THE CARDS: each row of YtjdchbdfohiaaaaGreatDoorRows.lean that lists a variable, with what it lists TIED to the program's text (the seventh form; the later family's looks); each row that meets fmt, with fmt's text TOLD by the authors' own Lean function (tested against real Go, not proved from fmt's source: count such statements apart). THE CARD IS WHAT COUNTS. Prove the row's statement (the work); the ties are given (YtjdchbdfohiaaaaGreatDoorTie.lean); close each card by the builder's one call (the guide's Derived/Test/ToyasCard.lean, 'card_holds'). Laid BY PROGRAM, IN A SANDBOX (cutbox-door.mjs). By AI agents, Wed Nov 11 2026. No macro, syntax, notation, axiom, sorry.
-/
import Derived.Test.YtjdchbdfohiaaaaGreatDoorRows
import GoSem.ClaimSeven
namespace Go.Proofs.YtjdchbdfohiaaaaGreatDoor
namespace Rows

/-- THE TIED CARD OF 'laws.FnFits'. -/
def fnFitsCard : Claim7 := { stood := { row := fnFitsRow, standIns := [], harness := (true, "54adc1c2e1fa2f536a9a0fa2cdbe9196a3d291d88a86f7feec701dccff449fd8"), looks := false }, kinds := [], alts := [], laidByText := true, laidKinds := [.data, .data, .data], laidTests := true, laidLooks := .later }
def FnFitsCardSaid : Prop := Claim7.holds Tryz.pinned (.plain (OpenSpec.ofChange fnFitsSpec)) fnFitsCard

/-- THE SECOND FORM's CARD OF 'laws.FnFits'. -/
def fnFitsUptoCard : Claim7 := { stood := { row := fnFitsUptoRow, standIns := [], harness := (true, "54adc1c2e1fa2f536a9a0fa2cdbe9196a3d291d88a86f7feec701dccff449fd8"), looks := false }, kinds := [], alts := [], laidByText := true, laidKinds := [.data, .data, .data], laidTests := true, laidLooks := .later }
def FnFitsUptoCardSaid : Prop := Claim7.holds Tryz.pinned (.plain (OpenSpec.upto fnFitsSpec)) fnFitsUptoCard
end Rows
end Go.Proofs.YtjdchbdfohiaaaaGreatDoor
