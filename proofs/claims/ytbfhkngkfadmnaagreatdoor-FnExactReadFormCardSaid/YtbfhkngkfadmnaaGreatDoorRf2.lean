/- Texts of this claim in one file: FnExactReadFormFacts. -/
import Derived.Test.YtbfhkngkfadmnaaGreatDoorRf1
import Derived.Test.YtbfhkngkfadmnaaGreatDoorRows
import Derived.ProofKit
import Derived.JoinedOf
namespace Go.Proofs.YtbfhkngkfadmnaaGreatDoor
open Go.ChangeShapes Go.WideShapes Go.ChangeAt
theorem fnExactReadForm_closed : joinedFacts Tryz.pinned.checked.prog 3 Tryz.f3 Rows.fnExactReadFormSpec Rows.fnExactReadFormRow = true := by kernel_rfl
end Go.Proofs.YtbfhkngkfadmnaaGreatDoor
