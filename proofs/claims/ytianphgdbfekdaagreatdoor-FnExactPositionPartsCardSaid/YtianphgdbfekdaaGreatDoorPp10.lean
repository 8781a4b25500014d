/- Texts of this claim in one file: FnExactPositionPartsGoFacts. -/
import Derived.Test.YtianphgdbfekdaaGreatDoorPp9
import Derived.Test.YtianphgdbfekdaaGreatDoorRows
import Derived.ProofKit
import Derived.SevenTiedAt
import Derived.JoinedOf
namespace Go.Proofs.YtianphgdbfekdaaGreatDoor
set_option maxRecDepth 100000
theorem fnExactPositionParts_still : false = Rows.fnExactPositionPartsRow.goesBy Tryz.pinned.checked.prog := by kernel_rfl
end Go.Proofs.YtianphgdbfekdaaGreatDoor
