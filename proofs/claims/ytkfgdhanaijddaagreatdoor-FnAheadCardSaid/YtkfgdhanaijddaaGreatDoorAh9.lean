/- Texts of this claim in one file: FnAheadGoFacts. -/
import Derived.Test.YtkfgdhanaijddaaGreatDoorAh8
import Derived.Test.YtkfgdhanaijddaaGreatDoorRows
import Derived.ProofKit
import Derived.SevenTiedAt
import Derived.JoinedOf
namespace Go.Proofs.YtkfgdhanaijddaaGreatDoor
set_option maxRecDepth 100000
theorem fnAhead_still : false = Rows.fnAheadRow.goesBy Tryz.pinned.checked.prog := by kernel_rfl
end Go.Proofs.YtkfgdhanaijddaaGreatDoor
