/- Texts of this claim in one file: FnProofTextFacts. -/
import Derived.Test.YtajkbplgbikgdaaGreatDoorRp1
import Derived.Test.YtajkbplgbikgdaaGreatDoorRows
import Derived.ProofKit
import Derived.JoinedOf
namespace Go.Proofs.YtajkbplgbikgdaaGreatDoor
open Go.ChangeShapes Go.WideShapes Go.ChangeAt
theorem gW : joinedFacts Tryz.pinned.checked.prog 4 Tryz.f4 Rows.fnProofTextSpec Rows.fnProofTextRow = true := by kernel_rfl
end Go.Proofs.YtajkbplgbikgdaaGreatDoor
