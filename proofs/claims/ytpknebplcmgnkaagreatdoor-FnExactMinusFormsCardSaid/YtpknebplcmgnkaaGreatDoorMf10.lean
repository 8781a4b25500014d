/- Texts of this claim in one file: FnExactMinusFormsGoFacts. -/
import Derived.Test.YtpknebplcmgnkaaGreatDoorMf9
import Derived.Test.YtpknebplcmgnkaaGreatDoorRows
import Derived.ProofKit
import Derived.SevenTiedAt
import Derived.JoinedOf
namespace Go.Proofs.YtpknebplcmgnkaaGreatDoor
set_option maxRecDepth 100000
theorem fnExactMinusForms_still : false = Rows.fnExactMinusFormsRow.goesBy Tryz.pinned.checked.prog := by kernel_rfl
end Go.Proofs.YtpknebplcmgnkaaGreatDoor
