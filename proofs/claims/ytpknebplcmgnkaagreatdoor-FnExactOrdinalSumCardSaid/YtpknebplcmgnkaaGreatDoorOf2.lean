/- Texts of this claim in one file: FnExactOrdinalSumFacts. -/
import Derived.Test.YtpknebplcmgnkaaGreatDoorOf1
import Derived.Test.YtpknebplcmgnkaaGreatDoorRows
import Derived.ProofKit
import Derived.JoinedOf
namespace Go.Proofs.YtpknebplcmgnkaaGreatDoor
open Go.ChangeShapes Go.WideShapes Go.ChangeAt
theorem fnExactOrdinalSum_closed : joinedFacts Tryz.pinned.checked.prog 11 Tryz.f11 Rows.fnExactOrdinalSumSpec Rows.fnExactOrdinalSumRow = true := by kernel_rfl
end Go.Proofs.YtpknebplcmgnkaaGreatDoor
