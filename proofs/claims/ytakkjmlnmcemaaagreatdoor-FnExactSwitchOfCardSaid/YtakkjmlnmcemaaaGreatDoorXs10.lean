/- Texts of this claim in one file: FnExactSwitchOfGoFacts. -/
import Derived.Test.YtakkjmlnmcemaaaGreatDoorXs9
import Derived.Test.YtakkjmlnmcemaaaGreatDoorRows
import Derived.ProofKit
import Derived.SevenTiedAt
import Derived.JoinedOf
namespace Go.Proofs.YtakkjmlnmcemaaaGreatDoor
set_option maxRecDepth 100000
theorem fnExactSwitchOf_still : false = Rows.fnExactSwitchOfRow.goesBy Tryz.pinned.checked.prog := by kernel_rfl
end Go.Proofs.YtakkjmlnmcemaaaGreatDoor
