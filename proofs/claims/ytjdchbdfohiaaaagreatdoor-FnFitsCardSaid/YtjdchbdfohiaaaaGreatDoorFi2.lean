/- Texts of this claim in one file: FnFitsFacts. -/
import Derived.Test.YtjdchbdfohiaaaaGreatDoorFi1
import Derived.Test.YtjdchbdfohiaaaaGreatDoorRows
import Derived.ProofKit
import Derived.JoinedOf
namespace Go.Proofs.YtjdchbdfohiaaaaGreatDoor
open Go.ChangeShapes Go.WideShapes Go.ChangeAt
theorem fnFits_closed : joinedFacts Tryz.pinned.checked.prog 3 Tryz.f3 Rows.fnFitsSpec Rows.fnFitsRow = true := by kernel_rfl
end Go.Proofs.YtjdchbdfohiaaaaGreatDoor
