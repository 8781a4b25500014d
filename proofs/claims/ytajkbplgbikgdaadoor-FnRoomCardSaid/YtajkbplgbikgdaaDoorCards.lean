/-
  DERIVED. GIVEN WITH THE SEED: THE CARDS: each row of YtajkbplgbikgdaaDoorRows.lean that lists a variable, with what it lists TIED to the program's text (the seventh form; the later family's looks); each row that meets fmt, with fmt's text TOLD by the authors' own Lean function (tested against real Go, not proved from fmt's source: count such statements apart). THE CARD IS WHAT COUNTS. Prove the row's statement (the work); the ties are given (YtajkbplgbikgdaaDoorTie.lean); close each card by the builder's one call (the guide's Derived/Test/ToyasCard.lean, 'card_holds'). Laid BY PROGRAM, IN A SANDBOX (cutbox-door.mjs). By AI agents, Wed Nov 11 2026. No macro, syntax, notation, axiom, sorry.
-/
import Derived.Test.YtajkbplgbikgdaaDoorRows
import GoSem.ClaimSeven
namespace Go.Proofs.YtajkbplgbikgdaaDoor
namespace Rows

/-- THE TIED CARD OF 'laws.FnRoom'. -/
def fnRoomCard : Claim7 := { stood := { row := fnRoomRow, standIns := [], harness := (true, "fc5430e08b29f3363172e890bbdcc318857cc06de626eaa7a43e92e97417180b"), looks := false }, kinds := [], alts := [], laidByText := true, laidKinds := [.data, .pinned], laidTests := true, laidLooks := .later }
def FnRoomCardSaid : Prop := Claim7.holds Tryd.pinned (.plain (OpenSpec.ofChange fnRoomSpec)) fnRoomCard

/-- THE SECOND FORM's CARD OF 'laws.FnRoom'. -/
def fnRoomUptoCard : Claim7 := { stood := { row := fnRoomUptoRow, standIns := [], harness := (true, "fc5430e08b29f3363172e890bbdcc318857cc06de626eaa7a43e92e97417180b"), looks := false }, kinds := [], alts := [], laidByText := true, laidKinds := [.data, .pinned], laidTests := true, laidLooks := .later }
def FnRoomUptoCardSaid : Prop := Claim7.holds Tryd.pinned (.plain (OpenSpec.upto fnRoomSpec)) fnRoomUptoCard
end Rows
end Go.Proofs.YtajkbplgbikgdaaDoor
