/- Texts of this claim in one file: FnExactMakeFormGoFacts. -/
import Derived.Test.YtpknebplcmgnkaaGreatDoorKf9
import Derived.Test.YtpknebplcmgnkaaGreatDoorRows
import Derived.ProofKit
import Derived.SevenTiedAt
import Derived.JoinedOf
namespace Go.Proofs.YtpknebplcmgnkaaGreatDoor
set_option maxRecDepth 100000
theorem fnExactMakeForm_still : false = Rows.fnExactMakeFormRow.goesBy Tryz.pinned.checked.prog := by kernel_rfl
end Go.Proofs.YtpknebplcmgnkaaGreatDoor
