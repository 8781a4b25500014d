/- Texts of this claim in one file: FnExactNumberOfGoFacts. -/
import Derived.Test.YtfnginkcmcfdfaaGreatDoorNo9
import Derived.Test.YtfnginkcmcfdfaaGreatDoorRows
import Derived.ProofKit
import Derived.SevenTiedAt
import Derived.JoinedOf
namespace Go.Proofs.YtfnginkcmcfdfaaGreatDoor
set_option maxRecDepth 100000
theorem fnExactNumberOf_still : false = Rows.fnExactNumberOfRow.goesBy Tryz.pinned.checked.prog := by kernel_rfl
end Go.Proofs.YtfnginkcmcfdfaaGreatDoor
