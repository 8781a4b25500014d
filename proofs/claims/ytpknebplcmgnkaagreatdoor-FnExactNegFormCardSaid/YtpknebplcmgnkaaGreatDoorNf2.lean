/- Texts of this claim in one file: FnExactNegFormFacts. -/
import Derived.Test.YtpknebplcmgnkaaGreatDoorNf1
import Derived.Test.YtpknebplcmgnkaaGreatDoorRows
import Derived.ProofKit
import Derived.JoinedOf
namespace Go.Proofs.YtpknebplcmgnkaaGreatDoor
open Go.ChangeShapes Go.WideShapes Go.ChangeAt
theorem fnExactNegForm_closed : joinedFacts Tryz.pinned.checked.prog 10 Tryz.f10 Rows.fnExactNegFormSpec Rows.fnExactNegFormRow = true := by kernel_rfl
end Go.Proofs.YtpknebplcmgnkaaGreatDoor
