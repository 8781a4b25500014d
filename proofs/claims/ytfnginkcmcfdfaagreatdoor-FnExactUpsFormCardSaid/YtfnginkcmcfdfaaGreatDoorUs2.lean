/- Texts of this claim in one file: FnExactUpsFormFacts. -/
import Derived.Test.YtfnginkcmcfdfaaGreatDoorUs1
import Derived.Test.YtfnginkcmcfdfaaGreatDoorRows
import Derived.ProofKit
import Derived.JoinedOf
namespace Go.Proofs.YtfnginkcmcfdfaaGreatDoor
open Go.ChangeShapes Go.WideShapes Go.ChangeAt
theorem fnExactUpsForm_closed : joinedFacts Tryz.pinned.checked.prog 10 Tryz.f10 Rows.fnExactUpsFormSpec Rows.fnExactUpsFormRow = true := by kernel_rfl
end Go.Proofs.YtfnginkcmcfdfaaGreatDoor
