/- Texts of this claim in one file: FnThreeGoFacts. -/
import Derived.Test.YtkfgdhanaijddaaGreatDoorTi9
import Derived.Test.YtkfgdhanaijddaaGreatDoorRows
import Derived.ProofKit
import Derived.SevenTiedAt
import Derived.JoinedOf
namespace Go.Proofs.YtkfgdhanaijddaaGreatDoor
set_option maxRecDepth 100000
theorem fnThree_still : false = Rows.fnThreeRow.goesBy Tryz.pinned.checked.prog := by kernel_rfl
end Go.Proofs.YtkfgdhanaijddaaGreatDoor
