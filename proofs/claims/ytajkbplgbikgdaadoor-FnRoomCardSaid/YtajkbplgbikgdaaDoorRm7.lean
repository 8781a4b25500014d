/- Texts of this claim in one file: FnRoomGoFacts. -/
import Derived.Test.YtajkbplgbikgdaaDoorRm6
import Derived.Test.YtajkbplgbikgdaaDoorRows
import Derived.ProofKit
import Derived.SevenTiedAt
import Derived.JoinedOf
namespace Go.Proofs.YtajkbplgbikgdaaDoor
set_option maxRecDepth 100000
theorem fnRoom_still : false = Rows.fnRoomRow.goesBy Tryd.pinned.checked.prog := by kernel_rfl
end Go.Proofs.YtajkbplgbikgdaaDoor
