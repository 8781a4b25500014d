/- Texts of this claim in one file: FnExactTinyFormGoFacts. -/
import Derived.Test.YtfnginkcmcfdfaaGreatDoorTf9
import Derived.Test.YtfnginkcmcfdfaaGreatDoorRows
import Derived.ProofKit
import Derived.SevenTiedAt
import Derived.JoinedOf
namespace Go.Proofs.YtfnginkcmcfdfaaGreatDoor
set_option maxRecDepth 100000
theorem fnExactTinyForm_still : false = Rows.fnExactTinyFormRow.goesBy Tryz.pinned.checked.prog := by kernel_rfl
end Go.Proofs.YtfnginkcmcfdfaaGreatDoor
