/- Texts of this claim in one file: FnPartsFacts. -/
import Derived.Test.YtkfgdhanaijddaaGreatDoorPb1
import Derived.Test.YtkfgdhanaijddaaGreatDoorRows
import Derived.ProofKit
import Derived.JoinedOf
namespace Go.Proofs.YtkfgdhanaijddaaGreatDoor
open Go.ChangeShapes Go.WideShapes Go.ChangeAt
theorem fnParts_closed : joinedFacts Tryz.pinned.checked.prog 6 Tryz.f6 Rows.fnPartsSpec Rows.fnPartsRow = true := by kernel_rfl
end Go.Proofs.YtkfgdhanaijddaaGreatDoor
