/- Texts of this claim in one file: FnNumberOrderFacts. -/
import Derived.Test.YtkfgdhanaijddaaGreatDoorNu1
import Derived.Test.YtkfgdhanaijddaaGreatDoorRows
import Derived.ProofKit
import Derived.JoinedOf
namespace Go.Proofs.YtkfgdhanaijddaaGreatDoor
open Go.ChangeShapes Go.WideShapes Go.ChangeAt
theorem fnNumberOrder_closed : joinedFacts Tryz.pinned.checked.prog 7 Tryz.f7 Rows.fnNumberOrderSpec Rows.fnNumberOrderRow = true := by kernel_rfl
end Go.Proofs.YtkfgdhanaijddaaGreatDoor
