/- Texts of this claim in one file: FnExactStarOfGoFacts. -/
import Derived.Test.YtfnginkcmcfdfaaGreatDoorSf9
import Derived.Test.YtfnginkcmcfdfaaGreatDoorRows
import Derived.ProofKit
import Derived.SevenTiedAt
import Derived.JoinedOf
namespace Go.Proofs.YtfnginkcmcfdfaaGreatDoor
set_option maxRecDepth 100000
theorem fnExactStarOf_still : false = Rows.fnExactStarOfRow.goesBy Tryz.pinned.checked.prog := by kernel_rfl
end Go.Proofs.YtfnginkcmcfdfaaGreatDoor
