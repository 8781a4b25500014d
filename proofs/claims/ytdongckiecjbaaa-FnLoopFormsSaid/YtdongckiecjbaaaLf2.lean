/- Texts of this claim in one file: FnLoopFormsFacts. -/
import Derived.Test.YtdongckiecjbaaaLf1
import Derived.Test.YtdongckiecjbaaaRows
import Derived.ProofKit
import Derived.JoinedOf
namespace Go.Proofs.Ytdongckiecjbaaa
open Go.ChangeShapes Go.WideShapes Go.ChangeAt
theorem fnLoopForms_closed : joinedFacts Try.pinned.checked.prog 3 Try.f3 Rows.fnLoopFormsSpec Rows.fnLoopFormsRow = true := by kernel_rfl
end Go.Proofs.Ytdongckiecjbaaa
