/- Texts of this claim in one file: FnGreatestFacts. -/
import Derived.Test.YtkfgdhanaijddaaDoorGw1
import Derived.Test.YtkfgdhanaijddaaDoorRows
import Derived.ProofKit
import Derived.JoinedOf
namespace Go.Proofs.YtkfgdhanaijddaaDoor
open Go.ChangeShapes Go.WideShapes Go.ChangeAt
theorem fnGreatest_closed : joinedFacts Tryd.pinned.checked.prog 5 Tryd.f5 Rows.fnGreatestSpec Rows.fnGreatestRow = true := by kernel_rfl
end Go.Proofs.YtkfgdhanaijddaaDoor
