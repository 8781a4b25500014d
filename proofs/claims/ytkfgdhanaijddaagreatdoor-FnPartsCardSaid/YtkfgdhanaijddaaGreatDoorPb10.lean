/- Texts of this claim in one file: FnPartsGoFacts. -/
import Derived.Test.YtkfgdhanaijddaaGreatDoorPb9
import Derived.Test.YtkfgdhanaijddaaGreatDoorRows
import Derived.ProofKit
import Derived.SevenTiedAt
import Derived.JoinedOf
namespace Go.Proofs.YtkfgdhanaijddaaGreatDoor
set_option maxRecDepth 100000
theorem fnParts_still : false = Rows.fnPartsRow.goesBy Tryz.pinned.checked.prog := by kernel_rfl
end Go.Proofs.YtkfgdhanaijddaaGreatDoor
