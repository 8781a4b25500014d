/- Texts of this claim in one file: FnExactSimplestForFacts. -/
import Derived.Test.YtfnginkcmcfdfaaGreatDoorSp1
import Derived.Test.YtfnginkcmcfdfaaGreatDoorRows
import Derived.ProofKit
import Derived.JoinedOf
namespace Go.Proofs.YtfnginkcmcfdfaaGreatDoor
open Go.ChangeShapes Go.WideShapes Go.ChangeAt
theorem fnExactSimplestFor_closed : joinedFacts Tryz.pinned.checked.prog 8 Tryz.f8 Rows.fnExactSimplestForSpec Rows.fnExactSimplestForRow = true := by kernel_rfl
end Go.Proofs.YtfnginkcmcfdfaaGreatDoor
