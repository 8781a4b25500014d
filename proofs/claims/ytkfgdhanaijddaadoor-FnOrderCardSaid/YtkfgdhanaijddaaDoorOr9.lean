/- Texts of this claim in one file: FnOrderGoFacts. -/
import Derived.Test.YtkfgdhanaijddaaDoorOr8
import Derived.Test.YtkfgdhanaijddaaDoorRows
import Derived.ProofKit
import Derived.SevenTiedAt
import Derived.JoinedOf
namespace Go.Proofs.YtkfgdhanaijddaaDoor
set_option maxRecDepth 100000
theorem fnOrder_still : false = Rows.fnOrderRow.goesBy Tryd.pinned.checked.prog := by kernel_rfl
end Go.Proofs.YtkfgdhanaijddaaDoor
