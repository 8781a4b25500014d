/- Texts of this claim in one file: FnExactSumFormsGoFacts. -/
import Derived.Test.YtpknebplcmgnkaaGreatDoorSf9
import Derived.Test.YtpknebplcmgnkaaGreatDoorRows
import Derived.ProofKit
import Derived.SevenTiedAt
import Derived.JoinedOf
namespace Go.Proofs.YtpknebplcmgnkaaGreatDoor
set_option maxRecDepth 100000
theorem fnExactSumForms_still : false = Rows.fnExactSumFormsRow.goesBy Tryz.pinned.checked.prog := by kernel_rfl
end Go.Proofs.YtpknebplcmgnkaaGreatDoor
