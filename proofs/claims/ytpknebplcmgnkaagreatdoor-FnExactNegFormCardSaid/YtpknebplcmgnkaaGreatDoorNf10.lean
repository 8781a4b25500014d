/- Texts of this claim in one file: FnExactNegFormGoFacts. -/
import Derived.Test.YtpknebplcmgnkaaGreatDoorNf9
import Derived.Test.YtpknebplcmgnkaaGreatDoorRows
import Derived.ProofKit
import Derived.SevenTiedAt
import Derived.JoinedOf
namespace Go.Proofs.YtpknebplcmgnkaaGreatDoor
set_option maxRecDepth 100000
theorem fnExactNegForm_still : false = Rows.fnExactNegFormRow.goesBy Tryz.pinned.checked.prog := by kernel_rfl
end Go.Proofs.YtpknebplcmgnkaaGreatDoor
