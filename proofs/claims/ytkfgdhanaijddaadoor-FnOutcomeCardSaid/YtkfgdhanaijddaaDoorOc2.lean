/- Texts of this claim in one file: FnOutcomeFacts. -/
import Derived.Test.YtkfgdhanaijddaaDoorOc1
import Derived.Test.YtkfgdhanaijddaaDoorRows
import Derived.ProofKit
import Derived.JoinedOf
namespace Go.Proofs.YtkfgdhanaijddaaDoor
open Go.ChangeShapes Go.WideShapes Go.ChangeAt
theorem fnOutcome_closed : joinedFacts Tryd.pinned.checked.prog 4 Tryd.f4 Rows.fnOutcomeSpec Rows.fnOutcomeRow = true := by kernel_rfl
end Go.Proofs.YtkfgdhanaijddaaDoor
