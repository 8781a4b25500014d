/-
  DERIVED. GIVEN WITH THE SEED: THE CARDS: each row of YtfkompdmejpmmaaDoorRows.lean that lists a variable, with what it lists TIED to the program's text (the seventh form; the later family's looks); each row that meets fmt, with fmt's text TOLD by the authors' own Lean function (tested against real Go, not proved from fmt's source: count such statements apart). THE CARD IS WHAT COUNTS. Prove the row's statement (the work); the ties are given (YtfkompdmejpmmaaDoorTie.lean); close each card by the builder's one call (the guide's Derived/Test/ToyasCard.lean, 'card_holds'). Laid BY PROGRAM, IN A SANDBOX (cutbox-door.mjs). By AI agents, Wed Nov 11 2026. No macro, syntax, notation, axiom, sorry.
-/
import Derived.Test.YtfkompdmejpmmaaDoorRows
import GoSem.ClaimSeven
namespace Go.Proofs.YtfkompdmejpmmaaDoor
namespace Rows

/-- THE TIED CARD OF 'laws.FnExactIsCanon'. -/
def fnExactIsCanonCard : Claim7 := { stood := { row := fnExactIsCanonRow, standIns := [], harness := (true, "ff1b173673c731c3e2ca623609b1c51e5d8592823d42ca4aeb67cb489284c79c"), looks := false }, kinds := [], alts := [], laidByText := true, laidKinds := [.data, .data, .data], laidTests := true, laidLooks := .later }
def FnExactIsCanonCardSaid : Prop := Claim7.holds Tryd.pinned (.plain (OpenSpec.ofChange fnExactIsCanonSpec)) fnExactIsCanonCard

/-- THE SECOND FORM's CARD OF 'laws.FnExactIsCanon'. -/
def fnExactIsCanonUptoCard : Claim7 := { stood := { row := fnExactIsCanonUptoRow, standIns := [], harness := (true, "ff1b173673c731c3e2ca623609b1c51e5d8592823d42ca4aeb67cb489284c79c"), looks := false }, kinds := [], alts := [], laidByText := true, laidKinds := [.data, .data, .data], laidTests := true, laidLooks := .later }
def FnExactIsCanonUptoCardSaid : Prop := Claim7.holds Tryd.pinned (.plain (OpenSpec.upto fnExactIsCanonSpec)) fnExactIsCanonUptoCard
end Rows
end Go.Proofs.YtfkompdmejpmmaaDoor
