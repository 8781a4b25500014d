/- Texts of this claim in one file: FnThreeFacts. -/
import Derived.Test.YtkfgdhanaijddaaGreatDoorTi1
import Derived.Test.YtkfgdhanaijddaaGreatDoorRows
import Derived.ProofKit
import Derived.JoinedOf
namespace Go.Proofs.YtkfgdhanaijddaaGreatDoor
open Go.ChangeShapes Go.WideShapes Go.ChangeAt
theorem fnThree_closed : joinedFacts Tryz.pinned.checked.prog 3 Tryz.f3 Rows.fnThreeSpec Rows.fnThreeRow = true := by kernel_rfl
end Go.Proofs.YtkfgdhanaijddaaGreatDoor
