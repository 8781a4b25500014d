/-
  DERIVED. GIVEN WITH THE SEED: THE CARDS: each row of YtkfgdhanaijddaaDoorRows.lean that lists a variable, with what it lists TIED to the program's text (the seventh form; the later family's looks); each row that meets fmt, with fmt's text TOLD by the authors' own Lean function (tested against real Go, not proved from fmt's source: count such statements apart). THE CARD IS WHAT COUNTS. Prove the row's statement (the work); the ties are given (YtkfgdhanaijddaaDoorTie.lean); close each card by the builder's one call (the guide's Derived/Test/ToyasCard.lean, 'card_holds'). Laid BY PROGRAM, IN A SANDBOX (cutbox-door.mjs). By AI agents, Wed Nov 11 2026. No macro, syntax, notation, axiom, sorry.
-/
import Derived.Test.YtkfgdhanaijddaaDoorRows
import GoSem.ClaimSeven
namespace Go.Proofs.YtkfgdhanaijddaaDoor
namespace Rows

/-- THE TIED CARD OF 'laws.FnOrder'. -/
def fnOrderCard : Claim7 := { stood := { row := fnOrderRow, standIns := [], harness := (true, "7bff4c77e6785e83780cc1e43beb674e3af3ed333277f29e86881a83afd0eca4"), looks := false }, kinds := [], alts := [], laidByText := true, laidKinds := [.data, .data, .data], laidTests := true, laidLooks := .later }
def FnOrderCardSaid : Prop := Claim7.holds Tryd.pinned (.plain (OpenSpec.ofChange fnOrderSpec)) fnOrderCard

/-- THE TIED CARD OF 'laws.FnOutcome'. -/
def fnOutcomeCard : Claim7 := { stood := { row := fnOutcomeRow, standIns := [], harness := (true, "7bff4c77e6785e83780cc1e43beb674e3af3ed333277f29e86881a83afd0eca4"), looks := false }, kinds := [], alts := [], laidByText := true, laidKinds := [.data, .data, .data], laidTests := true, laidLooks := .later }
def FnOutcomeCardSaid : Prop := Claim7.holds Tryd.pinned (.plain (OpenSpec.ofChange fnOutcomeSpec)) fnOutcomeCard

/-- THE TIED CARD OF 'laws.FnGreatest'. -/
def fnGreatestCard : Claim7 := { stood := { row := fnGreatestRow, standIns := [], harness := (true, "7bff4c77e6785e83780cc1e43beb674e3af3ed333277f29e86881a83afd0eca4"), looks := false }, kinds := [], alts := [], laidByText := true, laidKinds := [.data, .data, .data], laidTests := true, laidLooks := .later }
def FnGreatestCardSaid : Prop := Claim7.holds Tryd.pinned (.plain (OpenSpec.ofChange fnGreatestSpec)) fnGreatestCard

/-- THE SECOND FORM's CARD OF 'laws.FnOrder'. -/
def fnOrderUptoCard : Claim7 := { stood := { row := fnOrderUptoRow, standIns := [], harness := (true, "7bff4c77e6785e83780cc1e43beb674e3af3ed333277f29e86881a83afd0eca4"), looks := false }, kinds := [], alts := [], laidByText := true, laidKinds := [.data, .data, .data], laidTests := true, laidLooks := .later }
def FnOrderUptoCardSaid : Prop := Claim7.holds Tryd.pinned (.plain (OpenSpec.upto fnOrderSpec)) fnOrderUptoCard

/-- THE SECOND FORM's CARD OF 'laws.FnOutcome'. -/
def fnOutcomeUptoCard : Claim7 := { stood := { row := fnOutcomeUptoRow, standIns := [], harness := (true, "7bff4c77e6785e83780cc1e43beb674e3af3ed333277f29e86881a83afd0eca4"), looks := false }, kinds := [], alts := [], laidByText := true, laidKinds := [.data, .data, .data], laidTests := true, laidLooks := .later }
def FnOutcomeUptoCardSaid : Prop := Claim7.holds Tryd.pinned (.plain (OpenSpec.upto fnOutcomeSpec)) fnOutcomeUptoCard

/-- THE SECOND FORM's CARD OF 'laws.FnGreatest'. -/
def fnGreatestUptoCard : Claim7 := { stood := { row := fnGreatestUptoRow, standIns := [], harness := (true, "7bff4c77e6785e83780cc1e43beb674e3af3ed333277f29e86881a83afd0eca4"), looks := false }, kinds := [], alts := [], laidByText := true, laidKinds := [.data, .data, .data], laidTests := true, laidLooks := .later }
def FnGreatestUptoCardSaid : Prop := Claim7.holds Tryd.pinned (.plain (OpenSpec.upto fnGreatestSpec)) fnGreatestUptoCard
end Rows
end Go.Proofs.YtkfgdhanaijddaaDoor
