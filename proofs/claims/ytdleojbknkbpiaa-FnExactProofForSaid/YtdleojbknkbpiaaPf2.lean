/- Texts of this claim in one file: FnExactProofForFacts. -/
import Derived.Test.YtdleojbknkbpiaaPf1
import Derived.Test.YtdleojbknkbpiaaRows
import Derived.ProofKit
import Derived.JoinedOf
namespace Go.Proofs.Ytdleojbknkbpiaa
open Go.ChangeShapes Go.WideShapes Go.ChangeAt
theorem fnExactProofFor_closed : joinedFacts Try.pinned.checked.prog 3 Try.f3 Rows.fnExactProofForSpec Rows.fnExactProofForRow = true := by kernel_rfl
end Go.Proofs.Ytdleojbknkbpiaa
