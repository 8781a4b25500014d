/- Texts of this claim in one file: FnExactSimplestForGoFacts. -/
import Derived.Test.YtfnginkcmcfdfaaGreatDoorSp9
import Derived.Test.YtfnginkcmcfdfaaGreatDoorRows
import Derived.ProofKit
import Derived.SevenTiedAt
import Derived.JoinedOf
namespace Go.Proofs.YtfnginkcmcfdfaaGreatDoor
set_option maxRecDepth 100000
theorem fnExactSimplestFor_still : false = Rows.fnExactSimplestForRow.goesBy Tryz.pinned.checked.prog := by kernel_rfl
end Go.Proofs.YtfnginkcmcfdfaaGreatDoor
