/- Texts of this claim in one file: FnOrdinalFacts. -/
import Derived.Test.YtajkbplgbikgdaaGreatDoorOr1
import Derived.Test.YtajkbplgbikgdaaGreatDoorRows
import Derived.ProofKit
import Derived.JoinedOf
namespace Go.Proofs.YtajkbplgbikgdaaGreatDoor
open Go.ChangeShapes Go.WideShapes Go.ChangeAt
theorem tW : joinedFacts Tryz.pinned.checked.prog 3 Tryz.f3 Rows.fnOrdinalSpec Rows.fnOrdinalRow = true := by kernel_rfl
end Go.Proofs.YtajkbplgbikgdaaGreatDoor
