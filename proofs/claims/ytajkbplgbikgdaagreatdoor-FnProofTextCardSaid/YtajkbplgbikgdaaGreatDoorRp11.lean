/- Texts of this claim in one file: FnProofTextGoFacts. -/
import Derived.Test.YtajkbplgbikgdaaGreatDoorRp10
import Derived.Test.YtajkbplgbikgdaaGreatDoorRows
import Derived.ProofKit
import Derived.SevenTiedAt
import Derived.JoinedOf
namespace Go.Proofs.YtajkbplgbikgdaaGreatDoor
set_option maxRecDepth 100000
theorem tR : false = Rows.fnProofTextRow.goesBy Tryz.pinned.checked.prog := by kernel_rfl
end Go.Proofs.YtajkbplgbikgdaaGreatDoor
