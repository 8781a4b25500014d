/- Texts of this claim in one file: FnExactNearOfGoFacts. -/
import Derived.Test.YtakkjmlnmcemaaaGreatDoorNr9
import Derived.Test.YtakkjmlnmcemaaaGreatDoorRows
import Derived.ProofKit
import Derived.SevenTiedAt
import Derived.JoinedOf
namespace Go.Proofs.YtakkjmlnmcemaaaGreatDoor
set_option maxRecDepth 100000
theorem tO : false = Rows.fnExactNearOfRow.goesBy Tryz.pinned.checked.prog := by kernel_rfl
end Go.Proofs.YtakkjmlnmcemaaaGreatDoor
