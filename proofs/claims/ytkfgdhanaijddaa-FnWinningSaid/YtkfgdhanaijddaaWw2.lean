/- Texts of this claim in one file: FnWinningFacts. -/
import Derived.Test.YtkfgdhanaijddaaWw1
import Derived.Test.YtkfgdhanaijddaaRows
import Derived.ProofKit
import Derived.JoinedOf
namespace Go.Proofs.Ytkfgdhanaijddaa
open Go.ChangeShapes Go.WideShapes Go.ChangeAt
theorem fnWinning_closed : joinedFacts Try.pinned.checked.prog 3 Try.f3 Rows.fnWinningSpec Rows.fnWinningRow = true := by kernel_rfl
end Go.Proofs.Ytkfgdhanaijddaa
