/- Texts of this claim in one file: FnExactMakeFormFacts. -/
import Derived.Test.YtpknebplcmgnkaaGreatDoorKf1
import Derived.Test.YtpknebplcmgnkaaGreatDoorRows
import Derived.ProofKit
import Derived.JoinedOf
namespace Go.Proofs.YtpknebplcmgnkaaGreatDoor
open Go.ChangeShapes Go.WideShapes Go.ChangeAt
theorem fnExactMakeForm_closed : joinedFacts Tryz.pinned.checked.prog 13 Tryz.f13 Rows.fnExactMakeFormSpec Rows.fnExactMakeFormRow = true := by kernel_rfl
end Go.Proofs.YtpknebplcmgnkaaGreatDoor
