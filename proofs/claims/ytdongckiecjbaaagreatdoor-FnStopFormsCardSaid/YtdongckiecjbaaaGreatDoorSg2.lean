/- Texts of this claim in one file: FnStopFormsFacts. -/
import Derived.Test.YtdongckiecjbaaaGreatDoorSg1
import Derived.Test.YtdongckiecjbaaaGreatDoorRows
import Derived.ProofKit
import Derived.JoinedOf
namespace Go.Proofs.YtdongckiecjbaaaGreatDoor
open Go.ChangeShapes Go.WideShapes Go.ChangeAt
theorem fR : joinedFacts Tryz.pinned.checked.prog 3 Tryz.f3 Rows.fnStopFormsSpec Rows.fnStopFormsRow = true := by kernel_rfl
end Go.Proofs.YtdongckiecjbaaaGreatDoor
