/- Texts of this claim in one file: FnNegOrderGoFacts. -/
import Derived.Test.YtkfgdhanaijddaaGreatDoorNo9
import Derived.Test.YtkfgdhanaijddaaGreatDoorRows
import Derived.ProofKit
import Derived.SevenTiedAt
import Derived.JoinedOf
namespace Go.Proofs.YtkfgdhanaijddaaGreatDoor
set_option maxRecDepth 100000
theorem fnNegOrder_still : false = Rows.fnNegOrderRow.goesBy Tryz.pinned.checked.prog := by kernel_rfl
end Go.Proofs.YtkfgdhanaijddaaGreatDoor
