/- Texts of this claim in one file: FnExactOrdinalSumGoFacts. -/
import Derived.Test.YtpknebplcmgnkaaGreatDoorOf9
import Derived.Test.YtpknebplcmgnkaaGreatDoorRows
import Derived.ProofKit
import Derived.SevenTiedAt
import Derived.JoinedOf
namespace Go.Proofs.YtpknebplcmgnkaaGreatDoor
set_option maxRecDepth 100000
theorem fnExactOrdinalSum_still : false = Rows.fnExactOrdinalSumRow.goesBy Tryz.pinned.checked.prog := by kernel_rfl
end Go.Proofs.YtpknebplcmgnkaaGreatDoor
