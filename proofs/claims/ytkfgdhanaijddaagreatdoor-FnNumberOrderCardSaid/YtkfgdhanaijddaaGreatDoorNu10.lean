/- Texts of this claim in one file: FnNumberOrderGoFacts. -/
import Derived.Test.YtkfgdhanaijddaaGreatDoorNu9
import Derived.Test.YtkfgdhanaijddaaGreatDoorRows
import Derived.ProofKit
import Derived.SevenTiedAt
import Derived.JoinedOf
namespace Go.Proofs.YtkfgdhanaijddaaGreatDoor
set_option maxRecDepth 100000
theorem fnNumberOrder_still : false = Rows.fnNumberOrderRow.goesBy Tryz.pinned.checked.prog := by kernel_rfl
end Go.Proofs.YtkfgdhanaijddaaGreatDoor
