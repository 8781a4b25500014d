/- Texts of this claim in one file: FnExactIsAllSmallGoFacts. -/
import Derived.Test.YtpknebplcmgnkaaGreatDoorAf9
import Derived.Test.YtpknebplcmgnkaaGreatDoorRows
import Derived.ProofKit
import Derived.SevenTiedAt
import Derived.JoinedOf
namespace Go.Proofs.YtpknebplcmgnkaaGreatDoor
set_option maxRecDepth 100000
theorem fnExactIsAllSmall_still : false = Rows.fnExactIsAllSmallRow.goesBy Tryz.pinned.checked.prog := by kernel_rfl
end Go.Proofs.YtpknebplcmgnkaaGreatDoor
