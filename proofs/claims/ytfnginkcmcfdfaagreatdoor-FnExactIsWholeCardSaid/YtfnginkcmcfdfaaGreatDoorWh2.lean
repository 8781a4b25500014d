/- Texts of this claim in one file: FnExactIsWholeFacts. -/
import Derived.Test.YtfnginkcmcfdfaaGreatDoorWh1
import Derived.Test.YtfnginkcmcfdfaaGreatDoorRows
import Derived.ProofKit
import Derived.JoinedOf
namespace Go.Proofs.YtfnginkcmcfdfaaGreatDoor
open Go.ChangeShapes Go.WideShapes Go.ChangeAt
theorem fnExactIsWhole_closed : joinedFacts Tryz.pinned.checked.prog 5 Tryz.f5 Rows.fnExactIsWholeSpec Rows.fnExactIsWholeRow = true := by kernel_rfl
end Go.Proofs.YtfnginkcmcfdfaaGreatDoor
