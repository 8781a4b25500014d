/- Texts of this claim in one file: FnExactRightStopGoFacts. -/
import Derived.Test.YtakkjmlnmcemaaaGreatDoorRs9
import Derived.Test.YtakkjmlnmcemaaaGreatDoorRows
import Derived.ProofKit
import Derived.SevenTiedAt
import Derived.JoinedOf
namespace Go.Proofs.YtakkjmlnmcemaaaGreatDoor
set_option maxRecDepth 100000
theorem fW : false = Rows.fnExactRightStopRow.goesBy Tryz.pinned.checked.prog := by kernel_rfl
end Go.Proofs.YtakkjmlnmcemaaaGreatDoor
