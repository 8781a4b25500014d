/- Texts of this claim in one file: FnExactSumFormsFacts. -/
import Derived.Test.YtpknebplcmgnkaaGreatDoorSf1
import Derived.Test.YtpknebplcmgnkaaGreatDoorRows
import Derived.ProofKit
import Derived.JoinedOf
namespace Go.Proofs.YtpknebplcmgnkaaGreatDoor
open Go.ChangeShapes Go.WideShapes Go.ChangeAt
theorem fnExactSumForms_closed : joinedFacts Tryz.pinned.checked.prog 12 Tryz.f12 Rows.fnExactSumFormsSpec Rows.fnExactSumFormsRow = true := by kernel_rfl
end Go.Proofs.YtpknebplcmgnkaaGreatDoor
