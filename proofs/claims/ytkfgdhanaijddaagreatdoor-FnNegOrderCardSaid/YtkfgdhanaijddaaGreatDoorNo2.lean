/- Texts of this claim in one file: FnNegOrderFacts. -/
import Derived.Test.YtkfgdhanaijddaaGreatDoorNo1
import Derived.Test.YtkfgdhanaijddaaGreatDoorRows
import Derived.ProofKit
import Derived.JoinedOf
namespace Go.Proofs.YtkfgdhanaijddaaGreatDoor
open Go.ChangeShapes Go.WideShapes Go.ChangeAt
theorem fnNegOrder_closed : joinedFacts Tryz.pinned.checked.prog 8 Tryz.f8 Rows.fnNegOrderSpec Rows.fnNegOrderRow = true := by kernel_rfl
end Go.Proofs.YtkfgdhanaijddaaGreatDoor
