/- Texts of this claim in one file: FnExactIsAllSmallFacts. -/
import Derived.Test.YtpknebplcmgnkaaGreatDoorAf1
import Derived.Test.YtpknebplcmgnkaaGreatDoorRows
import Derived.ProofKit
import Derived.JoinedOf
namespace Go.Proofs.YtpknebplcmgnkaaGreatDoor
open Go.ChangeShapes Go.WideShapes Go.ChangeAt
theorem fnExactIsAllSmall_closed : joinedFacts Tryz.pinned.checked.prog 4 Tryz.f4 Rows.fnExactIsAllSmallSpec Rows.fnExactIsAllSmallRow = true := by kernel_rfl
end Go.Proofs.YtpknebplcmgnkaaGreatDoor
