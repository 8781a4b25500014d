/- Texts of this claim in one file: FnExactNumberFormGoFacts. -/
import Derived.Test.YtfnginkcmcfdfaaGreatDoorNf9
import Derived.Test.YtfnginkcmcfdfaaGreatDoorRows
import Derived.ProofKit
import Derived.SevenTiedAt
import Derived.JoinedOf
namespace Go.Proofs.YtfnginkcmcfdfaaGreatDoor
set_option maxRecDepth 100000
theorem fnExactNumberForm_still : false = Rows.fnExactNumberFormRow.goesBy Tryz.pinned.checked.prog := by kernel_rfl
end Go.Proofs.YtfnginkcmcfdfaaGreatDoor
