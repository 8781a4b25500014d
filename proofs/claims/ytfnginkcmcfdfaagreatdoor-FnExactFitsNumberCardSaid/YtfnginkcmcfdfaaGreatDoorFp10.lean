/- Texts of this claim in one file: FnExactFitsNumberGoFacts. -/
import Derived.Test.YtfnginkcmcfdfaaGreatDoorFp9
import Derived.Test.YtfnginkcmcfdfaaGreatDoorRows
import Derived.ProofKit
import Derived.SevenTiedAt
import Derived.JoinedOf
namespace Go.Proofs.YtfnginkcmcfdfaaGreatDoor
set_option maxRecDepth 100000
theorem fnExactFitsNumber_still : false = Rows.fnExactFitsNumberRow.goesBy Tryz.pinned.checked.prog := by kernel_rfl
end Go.Proofs.YtfnginkcmcfdfaaGreatDoor
