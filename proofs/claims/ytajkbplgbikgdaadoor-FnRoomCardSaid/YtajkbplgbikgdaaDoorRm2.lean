/- Texts of this claim in one file: FnRoomFacts. -/
import Derived.Test.YtajkbplgbikgdaaDoorRm1
import Derived.Test.YtajkbplgbikgdaaDoorRows
import Derived.ProofKit
import Derived.JoinedOf
namespace Go.Proofs.YtajkbplgbikgdaaDoor
open Go.ChangeShapes Go.WideShapes Go.ChangeAt
theorem fnRoom_closed : joinedFacts Tryd.pinned.checked.prog 3 Tryd.f3 Rows.fnRoomSpec Rows.fnRoomRow = true := by kernel_rfl
end Go.Proofs.YtajkbplgbikgdaaDoor
