/- Texts of this claim. -/
import Derived.Test.YtakkjmlnmcemaaaGreatDoorIn8
import Derived.Test.YtakkjmlnmcemaaaGreatDoorRows
import Derived.ProofKit
import Derived.SevenTiedAt
import Derived.JoinedOf
namespace Go.Proofs.YtakkjmlnmcemaaaGreatDoor
set_option maxRecDepth 100000
theorem seat_main : Tryz.pinned.checked.prog.mainIs = some ((true, "5b8eb7db8275d11e9a5d8b30f2561acef869a8daab065eeba205a08083cc091f").1, ((true, "5b8eb7db8275d11e9a5d8b30f2561acef869a8daab065eeba205a08083cc091f").2).toList) := by kernel_rfl
end Go.Proofs.YtakkjmlnmcemaaaGreatDoor
