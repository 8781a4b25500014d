/- Texts of this claim in one file: FnOrderFacts. -/
import Derived.Test.YtkfgdhanaijddaaDoorOr1
import Derived.Test.YtkfgdhanaijddaaDoorRows
import Derived.ProofKit
import Derived.JoinedOf
namespace Go.Proofs.YtkfgdhanaijddaaDoor
open Go.ChangeShapes Go.WideShapes Go.ChangeAt
theorem fnOrder_closed : joinedFacts Tryd.pinned.checked.prog 3 Tryd.f3 Rows.fnOrderSpec Rows.fnOrderRow = true := by kernel_rfl
end Go.Proofs.YtkfgdhanaijddaaDoor
