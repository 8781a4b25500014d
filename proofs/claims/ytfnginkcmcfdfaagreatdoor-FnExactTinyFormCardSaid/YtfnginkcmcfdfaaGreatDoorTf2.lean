/- Texts of this claim in one file: FnExactTinyFormFacts. -/
import Derived.Test.YtfnginkcmcfdfaaGreatDoorTf1
import Derived.Test.YtfnginkcmcfdfaaGreatDoorRows
import Derived.ProofKit
import Derived.JoinedOf
namespace Go.Proofs.YtfnginkcmcfdfaaGreatDoor
open Go.ChangeShapes Go.WideShapes Go.ChangeAt
theorem fnExactTinyForm_closed : joinedFacts Tryz.pinned.checked.prog 12 Tryz.f12 Rows.fnExactTinyFormSpec Rows.fnExactTinyFormRow = true := by kernel_rfl
end Go.Proofs.YtfnginkcmcfdfaaGreatDoor
