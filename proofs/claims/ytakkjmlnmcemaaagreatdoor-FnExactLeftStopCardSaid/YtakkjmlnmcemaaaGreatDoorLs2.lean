/- Texts of this claim in one file: FnExactLeftStopFacts. -/
import Derived.Test.YtakkjmlnmcemaaaGreatDoorLs1
import Derived.Test.YtakkjmlnmcemaaaGreatDoorRows
import Derived.ProofKit
import Derived.JoinedOf
namespace Go.Proofs.YtakkjmlnmcemaaaGreatDoor
open Go.ChangeShapes Go.WideShapes Go.ChangeAt
theorem fV : joinedFacts Tryz.pinned.checked.prog 3 Tryz.f3 Rows.fnExactLeftStopSpec Rows.fnExactLeftStopRow = true := by kernel_rfl
end Go.Proofs.YtakkjmlnmcemaaaGreatDoor
