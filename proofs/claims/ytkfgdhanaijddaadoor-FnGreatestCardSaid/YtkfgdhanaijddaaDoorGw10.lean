/- Texts of this claim in one file: FnGreatestGoFacts. -/
import Derived.Test.YtkfgdhanaijddaaDoorGw9
import Derived.Test.YtkfgdhanaijddaaDoorRows
import Derived.ProofKit
import Derived.SevenTiedAt
import Derived.JoinedOf
namespace Go.Proofs.YtkfgdhanaijddaaDoor
set_option maxRecDepth 100000
theorem fnGreatest_still : false = Rows.fnGreatestRow.goesBy Tryd.pinned.checked.prog := by kernel_rfl
end Go.Proofs.YtkfgdhanaijddaaDoor
