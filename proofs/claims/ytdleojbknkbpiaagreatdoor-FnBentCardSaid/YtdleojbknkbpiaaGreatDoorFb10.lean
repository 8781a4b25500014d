/- Texts of this claim. -/
import Derived.Test.YtdleojbknkbpiaaGreatDoorFb9
import Derived.Test.YtdleojbknkbpiaaGreatDoorRows
import Derived.ProofKit
import Derived.SevenTiedAt
import Derived.JoinedOf
namespace Go.Proofs.YtdleojbknkbpiaaGreatDoor
set_option maxRecDepth 100000
theorem sN : false = Rows.fnBentRow.goesBy Tryz.pinned.checked.prog := by kernel_rfl
end Go.Proofs.YtdleojbknkbpiaaGreatDoor
