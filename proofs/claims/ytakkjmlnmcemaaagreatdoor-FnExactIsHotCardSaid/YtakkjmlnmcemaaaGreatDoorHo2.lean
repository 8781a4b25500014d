/- Texts of this claim in one file: FnExactIsHotFacts. -/
import Derived.Test.YtakkjmlnmcemaaaGreatDoorHo1
import Derived.Test.YtakkjmlnmcemaaaGreatDoorRows
import Derived.ProofKit
import Derived.JoinedOf
namespace Go.Proofs.YtakkjmlnmcemaaaGreatDoor
open Go.ChangeShapes Go.WideShapes Go.ChangeAt
theorem tN : joinedFacts Tryz.pinned.checked.prog 5 Tryz.f5 Rows.fnExactIsHotSpec Rows.fnExactIsHotRow = true := by kernel_rfl
end Go.Proofs.YtakkjmlnmcemaaaGreatDoor
