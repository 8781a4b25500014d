/- Texts of this claim in one file: FnExactSwitchFormGoFacts. -/
import Derived.Test.YtfnginkcmcfdfaaGreatDoorSw8
import Derived.Test.YtfnginkcmcfdfaaGreatDoorRows
import Derived.ProofKit
import Derived.SevenTiedAt
import Derived.JoinedOf
namespace Go.Proofs.YtfnginkcmcfdfaaGreatDoor
set_option maxRecDepth 100000
theorem fnExactSwitchForm_still : false = Rows.fnExactSwitchFormRow.goesBy Tryz.pinned.checked.prog := by kernel_rfl
end Go.Proofs.YtfnginkcmcfdfaaGreatDoor
