/- Texts of this claim. -/
import Derived.Test.YtdleojbknkbpiaaGreatDoorFb1
import Derived.Test.YtdleojbknkbpiaaGreatDoorRows
import Derived.ProofKit
import Derived.JoinedOf
namespace Go.Proofs.YtdleojbknkbpiaaGreatDoor
open Go.ChangeShapes Go.WideShapes Go.ChangeAt
theorem nE : joinedFacts Tryz.pinned.checked.prog 3 Tryz.f3 Rows.fnBentSpec Rows.fnBentRow = true := by kernel_rfl
end Go.Proofs.YtdleojbknkbpiaaGreatDoor
