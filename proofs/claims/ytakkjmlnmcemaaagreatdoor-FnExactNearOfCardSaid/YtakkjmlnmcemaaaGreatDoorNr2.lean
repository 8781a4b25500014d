/- Texts of this claim in one file: FnExactNearOfFacts. -/
import Derived.Test.YtakkjmlnmcemaaaGreatDoorNr1
import Derived.Test.YtakkjmlnmcemaaaGreatDoorRows
import Derived.ProofKit
import Derived.JoinedOf
namespace Go.Proofs.YtakkjmlnmcemaaaGreatDoor
open Go.ChangeShapes Go.WideShapes Go.ChangeAt
theorem gZ : joinedFacts Tryz.pinned.checked.prog 7 Tryz.f7 Rows.fnExactNearOfSpec Rows.fnExactNearOfRow = true := by kernel_rfl
end Go.Proofs.YtakkjmlnmcemaaaGreatDoor
