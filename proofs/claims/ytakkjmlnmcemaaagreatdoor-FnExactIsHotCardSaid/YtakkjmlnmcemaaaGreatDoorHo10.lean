/- Texts of this claim in one file: FnExactIsHotGoFacts. -/
import Derived.Test.YtakkjmlnmcemaaaGreatDoorHo9
import Derived.Test.YtakkjmlnmcemaaaGreatDoorRows
import Derived.ProofKit
import Derived.SevenTiedAt
import Derived.JoinedOf
namespace Go.Proofs.YtakkjmlnmcemaaaGreatDoor
set_option maxRecDepth 100000
theorem rB : false = Rows.fnExactIsHotRow.goesBy Tryz.pinned.checked.prog := by kernel_rfl
end Go.Proofs.YtakkjmlnmcemaaaGreatDoor
