/- Texts of this claim in one file: FnAheadFacts. -/
import Derived.Test.YtkfgdhanaijddaaGreatDoorAh1
import Derived.Test.YtkfgdhanaijddaaGreatDoorRows
import Derived.ProofKit
import Derived.JoinedOf
namespace Go.Proofs.YtkfgdhanaijddaaGreatDoor
open Go.ChangeShapes Go.WideShapes Go.ChangeAt
theorem fnAhead_closed : joinedFacts Tryz.pinned.checked.prog 5 Tryz.f5 Rows.fnAheadSpec Rows.fnAheadRow = true := by kernel_rfl
end Go.Proofs.YtkfgdhanaijddaaGreatDoor
