/- Texts of this claim. -/
import Derived.Test.YtdleojbknkbpiaaGreatDoorFb8
import Derived.Test.YtdleojbknkbpiaaGreatDoorRows
import Derived.ProofKit
import Derived.SevenTiedAt
import Derived.JoinedOf
namespace Go.Proofs.YtdleojbknkbpiaaGreatDoor
set_option maxRecDepth 100000
theorem seat_main : Tryz.pinned.checked.prog.mainIs = some ((true, "caa729c35e40c999fe83e7d02e6b92b454c12b546348ca69283a37d9928a945d").1, ((true, "caa729c35e40c999fe83e7d02e6b92b454c12b546348ca69283a37d9928a945d").2).toList) := by kernel_rfl
end Go.Proofs.YtdleojbknkbpiaaGreatDoor
