/- Texts of this claim in one file: FnExactStarOfFacts. -/
import Derived.Test.YtfnginkcmcfdfaaGreatDoorSf1
import Derived.Test.YtfnginkcmcfdfaaGreatDoorRows
import Derived.ProofKit
import Derived.JoinedOf
namespace Go.Proofs.YtfnginkcmcfdfaaGreatDoor
open Go.ChangeShapes Go.WideShapes Go.ChangeAt
theorem fnExactStarOf_closed : joinedFacts Tryz.pinned.checked.prog 9 Tryz.f9 Rows.fnExactStarOfSpec Rows.fnExactStarOfRow = true := by kernel_rfl
end Go.Proofs.YtfnginkcmcfdfaaGreatDoor
