/- Texts of this claim in one file: MainFacts. -/
import Derived.Test.YtfnginkcmcfdfaaGreatDoorLf7
import Derived.Test.YtfnginkcmcfdfaaGreatDoorRows
import Derived.ProofKit
import Derived.SevenTiedAt
import Derived.JoinedOf
namespace Go.Proofs.YtfnginkcmcfdfaaGreatDoor
set_option maxRecDepth 100000
theorem seat_main : Tryz.pinned.checked.prog.mainIs = some ((true, "b6589457b183390351fe447f52b09d75d14c69b6eccc4f6dda3a2d94e545a32d").1, ((true, "b6589457b183390351fe447f52b09d75d14c69b6eccc4f6dda3a2d94e545a32d").2).toList) := by kernel_rfl
end Go.Proofs.YtfnginkcmcfdfaaGreatDoor
