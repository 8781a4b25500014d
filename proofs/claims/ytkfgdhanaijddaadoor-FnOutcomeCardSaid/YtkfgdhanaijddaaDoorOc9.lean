/- Texts of this claim in one file: FnOutcomeGoFacts. -/
import Derived.Test.YtkfgdhanaijddaaDoorOc8
import Derived.Test.YtkfgdhanaijddaaDoorRows
import Derived.ProofKit
import Derived.SevenTiedAt
import Derived.JoinedOf
namespace Go.Proofs.YtkfgdhanaijddaaDoor
set_option maxRecDepth 100000
theorem fnOutcome_still : false = Rows.fnOutcomeRow.goesBy Tryd.pinned.checked.prog := by kernel_rfl
end Go.Proofs.YtkfgdhanaijddaaDoor
