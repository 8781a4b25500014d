/- Texts of this claim in one file: FnExactReadFormGoFacts. -/
import Derived.Test.YtbfhkngkfadmnaaGreatDoorRf9
import Derived.Test.YtbfhkngkfadmnaaGreatDoorRows
import Derived.ProofKit
import Derived.SevenTiedAt
import Derived.JoinedOf
namespace Go.Proofs.YtbfhkngkfadmnaaGreatDoor
set_option maxRecDepth 100000
theorem fnExactReadForm_still : false = Rows.fnExactReadFormRow.goesBy Tryz.pinned.checked.prog := by kernel_rfl
end Go.Proofs.YtbfhkngkfadmnaaGreatDoor
