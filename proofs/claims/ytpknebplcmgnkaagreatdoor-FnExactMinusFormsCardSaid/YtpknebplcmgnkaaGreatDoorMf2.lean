/- Texts of this claim in one file: FnExactMinusFormsFacts. -/
import Derived.Test.YtpknebplcmgnkaaGreatDoorMf1
import Derived.Test.YtpknebplcmgnkaaGreatDoorRows
import Derived.ProofKit
import Derived.JoinedOf
namespace Go.Proofs.YtpknebplcmgnkaaGreatDoor
open Go.ChangeShapes Go.WideShapes Go.ChangeAt
theorem fnExactMinusForms_closed : joinedFacts Tryz.pinned.checked.prog 14 Tryz.f14 Rows.fnExactMinusFormsSpec Rows.fnExactMinusFormsRow = true := by kernel_rfl
end Go.Proofs.YtpknebplcmgnkaaGreatDoor
