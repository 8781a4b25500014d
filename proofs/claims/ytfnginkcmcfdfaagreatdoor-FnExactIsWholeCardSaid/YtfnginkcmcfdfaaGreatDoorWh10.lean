/- Texts of this claim in one file: FnExactIsWholeGoFacts. -/
import Derived.Test.YtfnginkcmcfdfaaGreatDoorWh9
import Derived.Test.YtfnginkcmcfdfaaGreatDoorRows
import Derived.ProofKit
import Derived.SevenTiedAt
import Derived.JoinedOf
namespace Go.Proofs.YtfnginkcmcfdfaaGreatDoor
set_option maxRecDepth 100000
theorem fnExactIsWhole_still : false = Rows.fnExactIsWholeRow.goesBy Tryz.pinned.checked.prog := by kernel_rfl
end Go.Proofs.YtfnginkcmcfdfaaGreatDoor
