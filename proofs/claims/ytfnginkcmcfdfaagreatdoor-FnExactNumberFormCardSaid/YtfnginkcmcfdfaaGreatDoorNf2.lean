/- Texts of this claim in one file: FnExactNumberFormFacts. -/
import Derived.Test.YtfnginkcmcfdfaaGreatDoorNf1
import Derived.Test.YtfnginkcmcfdfaaGreatDoorRows
import Derived.ProofKit
import Derived.JoinedOf
namespace Go.Proofs.YtfnginkcmcfdfaaGreatDoor
open Go.ChangeShapes Go.WideShapes Go.ChangeAt
theorem fnExactNumberForm_closed : joinedFacts Tryz.pinned.checked.prog 4 Tryz.f4 Rows.fnExactNumberFormSpec Rows.fnExactNumberFormRow = true := by kernel_rfl
end Go.Proofs.YtfnginkcmcfdfaaGreatDoor
