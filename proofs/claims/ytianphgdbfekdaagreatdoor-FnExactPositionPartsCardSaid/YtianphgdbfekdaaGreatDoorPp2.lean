/- Texts of this claim in one file: FnExactPositionPartsFacts. -/
import Derived.Test.YtianphgdbfekdaaGreatDoorPp1
import Derived.Test.YtianphgdbfekdaaGreatDoorRows
import Derived.ProofKit
import Derived.JoinedOf
namespace Go.Proofs.YtianphgdbfekdaaGreatDoor
open Go.ChangeShapes Go.WideShapes Go.ChangeAt
theorem fnExactPositionParts_closed : joinedFacts Tryz.pinned.checked.prog 3 Tryz.f3 Rows.fnExactPositionPartsSpec Rows.fnExactPositionPartsRow = true := by kernel_rfl
end Go.Proofs.YtianphgdbfekdaaGreatDoor
