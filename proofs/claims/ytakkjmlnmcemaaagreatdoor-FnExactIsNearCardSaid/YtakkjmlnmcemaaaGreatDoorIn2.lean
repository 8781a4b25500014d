/- Texts of this claim. -/
import Derived.Test.YtakkjmlnmcemaaaGreatDoorIn1
import Derived.Test.YtakkjmlnmcemaaaGreatDoorRows
import Derived.ProofKit
import Derived.JoinedOf
namespace Go.Proofs.YtakkjmlnmcemaaaGreatDoor
open Go.ChangeShapes Go.WideShapes Go.ChangeAt
theorem gZ : joinedFacts Tryz.pinned.checked.prog 6 Tryz.f6 Rows.fnExactIsNearSpec Rows.fnExactIsNearRow = true := by kernel_rfl
end Go.Proofs.YtakkjmlnmcemaaaGreatDoor
