/- Texts of this claim in one file: FnExactUpsFormGoFacts. -/
import Derived.Test.YtfnginkcmcfdfaaGreatDoorUs8
import Derived.Test.YtfnginkcmcfdfaaGreatDoorRows
import Derived.ProofKit
import Derived.SevenTiedAt
import Derived.JoinedOf
namespace Go.Proofs.YtfnginkcmcfdfaaGreatDoor
set_option maxRecDepth 100000
theorem fnExactUpsForm_still : false = Rows.fnExactUpsFormRow.goesBy Tryz.pinned.checked.prog := by kernel_rfl
end Go.Proofs.YtfnginkcmcfdfaaGreatDoor
