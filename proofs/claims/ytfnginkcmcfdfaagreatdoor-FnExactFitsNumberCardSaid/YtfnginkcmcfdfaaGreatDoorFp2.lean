/- Texts of this claim in one file: FnExactFitsNumberFacts. -/
import Derived.Test.YtfnginkcmcfdfaaGreatDoorFp1
import Derived.Test.YtfnginkcmcfdfaaGreatDoorRows
import Derived.ProofKit
import Derived.JoinedOf
namespace Go.Proofs.YtfnginkcmcfdfaaGreatDoor
open Go.ChangeShapes Go.WideShapes Go.ChangeAt
theorem fnExactFitsNumber_closed : joinedFacts Tryz.pinned.checked.prog 3 Tryz.f3 Rows.fnExactFitsNumberSpec Rows.fnExactFitsNumberRow = true := by kernel_rfl
end Go.Proofs.YtfnginkcmcfdfaaGreatDoor
