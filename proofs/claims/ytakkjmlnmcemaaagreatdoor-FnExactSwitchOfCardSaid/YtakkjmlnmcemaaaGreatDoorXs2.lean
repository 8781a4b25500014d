/- Texts of this claim in one file: FnExactSwitchOfFacts. -/
import Derived.Test.YtakkjmlnmcemaaaGreatDoorXs1
import Derived.Test.YtakkjmlnmcemaaaGreatDoorRows
import Derived.ProofKit
import Derived.JoinedOf
namespace Go.Proofs.YtakkjmlnmcemaaaGreatDoor
open Go.ChangeShapes Go.WideShapes Go.ChangeAt
theorem fnExactSwitchOf_closed : joinedFacts Tryz.pinned.checked.prog 8 Tryz.f8 Rows.fnExactSwitchOfSpec Rows.fnExactSwitchOfRow = true := by kernel_rfl
end Go.Proofs.YtakkjmlnmcemaaaGreatDoor
