/- Texts of this claim in one file: FnExactRightStopFacts. -/
import Derived.Test.YtakkjmlnmcemaaaGreatDoorRs1
import Derived.Test.YtakkjmlnmcemaaaGreatDoorRows
import Derived.ProofKit
import Derived.JoinedOf
namespace Go.Proofs.YtakkjmlnmcemaaaGreatDoor
open Go.ChangeShapes Go.WideShapes Go.ChangeAt
theorem fI : joinedFacts Tryz.pinned.checked.prog 4 Tryz.f4 Rows.fnExactRightStopSpec Rows.fnExactRightStopRow = true := by kernel_rfl
end Go.Proofs.YtakkjmlnmcemaaaGreatDoor
