/- Texts of this claim in one file: FnExactNumberOfFacts. -/
import Derived.Test.YtfnginkcmcfdfaaGreatDoorNo1
import Derived.Test.YtfnginkcmcfdfaaGreatDoorRows
import Derived.ProofKit
import Derived.JoinedOf
namespace Go.Proofs.YtfnginkcmcfdfaaGreatDoor
open Go.ChangeShapes Go.WideShapes Go.ChangeAt
theorem fnExactNumberOf_closed : joinedFacts Tryz.pinned.checked.prog 7 Tryz.f7 Rows.fnExactNumberOfSpec Rows.fnExactNumberOfRow = true := by kernel_rfl
end Go.Proofs.YtfnginkcmcfdfaaGreatDoor
