/- Texts of this claim. -/
import Derived.Test.YtdleojbknkbpiaaGreatDoorFp1
import Derived.Test.YtdleojbknkbpiaaGreatDoorRows
import Derived.ProofKit
import Derived.JoinedOf
namespace Go.Proofs.YtdleojbknkbpiaaGreatDoor
open Go.ChangeShapes Go.WideShapes Go.ChangeAt
theorem rW : joinedFacts Tryz.pinned.checked.prog 4 Tryz.f4 Rows.fnProofsSpec Rows.fnProofsRow = true := by kernel_rfl
end Go.Proofs.YtdleojbknkbpiaaGreatDoor
