/- Texts of this claim in one file: FnExactSwitchFormFacts. -/
import Derived.Test.YtfnginkcmcfdfaaGreatDoorSw1
import Derived.Test.YtfnginkcmcfdfaaGreatDoorRows
import Derived.ProofKit
import Derived.JoinedOf
namespace Go.Proofs.YtfnginkcmcfdfaaGreatDoor
open Go.ChangeShapes Go.WideShapes Go.ChangeAt
theorem fnExactSwitchForm_closed : joinedFacts Tryz.pinned.checked.prog 11 Tryz.f11 Rows.fnExactSwitchFormSpec Rows.fnExactSwitchFormRow = true := by kernel_rfl
end Go.Proofs.YtfnginkcmcfdfaaGreatDoor
