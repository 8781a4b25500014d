/- Texts of this claim in one file: FnExactLessFormFacts. -/
import Derived.Test.YtfnginkcmcfdfaaGreatDoorLf1
import Derived.Test.YtfnginkcmcfdfaaGreatDoorRows
import Derived.ProofKit
import Derived.JoinedOf
namespace Go.Proofs.YtfnginkcmcfdfaaGreatDoor
open Go.ChangeShapes Go.WideShapes Go.ChangeAt
theorem fnExactLessForm_closed : joinedFacts Tryz.pinned.checked.prog 6 Tryz.f6 Rows.fnExactLessFormSpec Rows.fnExactLessFormRow = true := by kernel_rfl
end Go.Proofs.YtfnginkcmcfdfaaGreatDoor
