/- Texts of this claim in one file: FnExactPositionMovesGoFacts. -/
import Derived.Test.YtianphgdbfekdaaGreatDoorPm8
import Derived.Test.YtianphgdbfekdaaGreatDoorRows
import Derived.ProofKit
import Derived.SevenTiedAt
import Derived.JoinedOf
namespace Go.Proofs.YtianphgdbfekdaaGreatDoor
set_option maxRecDepth 100000
theorem fnExactPositionMoves_still : false = Rows.fnExactPositionMovesRow.goesBy Tryz.pinned.checked.prog := by kernel_rfl
end Go.Proofs.YtianphgdbfekdaaGreatDoor
