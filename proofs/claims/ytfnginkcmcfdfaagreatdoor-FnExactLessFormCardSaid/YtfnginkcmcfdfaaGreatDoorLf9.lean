/- Texts of this claim in one file: FnExactLessFormGoFacts. -/
import Derived.Test.YtfnginkcmcfdfaaGreatDoorLf8
import Derived.Test.YtfnginkcmcfdfaaGreatDoorRows
import Derived.ProofKit
import Derived.SevenTiedAt
import Derived.JoinedOf
namespace Go.Proofs.YtfnginkcmcfdfaaGreatDoor
set_option maxRecDepth 100000
theorem fnExactLessForm_still : false = Rows.fnExactLessFormRow.goesBy Tryz.pinned.checked.prog := by kernel_rfl
end Go.Proofs.YtfnginkcmcfdfaaGreatDoor
