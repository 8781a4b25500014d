/- Texts of this claim in one file: FnExactLeftStopGoFacts. -/
import Derived.Test.YtakkjmlnmcemaaaGreatDoorLs9
import Derived.Test.YtakkjmlnmcemaaaGreatDoorRows
import Derived.ProofKit
import Derived.SevenTiedAt
import Derived.JoinedOf
namespace Go.Proofs.YtakkjmlnmcemaaaGreatDoor
set_option maxRecDepth 100000
theorem gH : false = Rows.fnExactLeftStopRow.goesBy Tryz.pinned.checked.prog := by kernel_rfl
end Go.Proofs.YtakkjmlnmcemaaaGreatDoor
