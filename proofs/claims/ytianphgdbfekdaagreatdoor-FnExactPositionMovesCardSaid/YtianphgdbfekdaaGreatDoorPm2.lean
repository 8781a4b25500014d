/- Texts of this claim in one file: FnExactPositionMovesFacts. -/
import Derived.Test.YtianphgdbfekdaaGreatDoorPm1
import Derived.Test.YtianphgdbfekdaaGreatDoorRows
import Derived.ProofKit
import Derived.JoinedOf
namespace Go.Proofs.YtianphgdbfekdaaGreatDoor
open Go.ChangeShapes Go.WideShapes Go.ChangeAt
theorem fnExactPositionMoves_closed : joinedFacts Tryz.pinned.checked.prog 4 Tryz.f4 Rows.fnExactPositionMovesSpec Rows.fnExactPositionMovesRow = true := by kernel_rfl
end Go.Proofs.YtianphgdbfekdaaGreatDoor
